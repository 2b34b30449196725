/- Part I of a proof. -/
import Derived.Test.YtiekiedlkehccaaGreatDoorMiD
import Derived.Test.YtiekiedlkehccaaGreatDoorMiA
import Derived.Test.YtiekiedlkehccaaGreatDoorMiE
import Derived.Test.YtiekiedlkehccaaGreatDoorProg
import Derived.Shelf.Strings.BuilderK
import Derived.Shelf.Strings.BuilderRune
import Derived.Shelf.Strings.Repeat
import Derived.Shelf.Unicode.DecodeAny
import Derived.Ground.Names2Prog
import Derived.Shelf.SlGeneric
import Derived.Shelf.Sort.Plain
import Derived.Shelf.Slices.In.SortNone
import Derived.Shelf.Slices.CompactS
import Derived.Lib.RuneLoops
import Derived.WalkKit
import Derived.Laws.CopyRow
import Derived.Shelf.Spec.SlicesInsertGrow
import Derived.Laws.AppendOwn
import Derived.Shelf.Slices.Clone
import Derived.Test.YtiekiedlkehccaaGreatDoorMiG
set_option linter.unusedVariables false
set_option linter.unusedSimpArgs false
set_option linter.unusedSectionVars false
set_option linter.constructorNameAsVariable false
set_option linter.unnecessarySimpa false
set_option maxRecDepth 100000
namespace Av
open Go
variable [Glb]
mutual
inductive Typ where
 | mk (kind min max scale : Int) (words : List Str) (elem : List Typ) (fields : List TFl)
inductive TFl where
 | mk (number : Int) (name : Str) (need : Int) (type : Typ) (dflt : List Val)
end
namespace Typ
def kind : Typ → Int | .mk k _ _ _ _ _ _ => k
def min : Typ → Int | .mk _ a _ _ _ _ _ => a
def max : Typ → Int | .mk _ _ b _ _ _ _ => b
def scale : Typ → Int | .mk _ _ _ s _ _ _ => s
def words : Typ → List Str | .mk _ _ _ _ w _ _ => w
def elem : Typ → List Typ | .mk _ _ _ _ _ e _ => e
def fields : Typ → List TFl | .mk _ _ _ _ _ _ f => f
end Typ
namespace TFl
def number : TFl → Int | .mk n _ _ _ _ => n
def name : TFl → Str | .mk _ n _ _ _ => n
def need : TFl → Int | .mk _ _ n _ _ => n
def type : TFl → Typ | .mk _ _ _ t _ => t
def dflt : TFl → List Val | .mk _ _ _ _ d => d
end TFl
mutual
def encT : Typ → Dat
 | .mk k a b s w e f => .agg [.int .i64 k, .int .i64 a, .int .i64 b, .int .i64 s, .list 1 (w.map .str), .list 7 (encTs e), .list 11 (encGs f)]
def encTs : List Typ → List Dat
 | [] => []
 | v :: r => encT v :: encTs r
def encG : TFl → Dat
 | .mk n m d t v => .agg ([.int .i64 n, .str m, .int .i64 d] ++ ((encT t).cells ++ [.list 6 (v.map encV)]))
def encGs : List TFl → List Dat
 | [] => []
 | v :: r => encG v :: encGs r
end
theorem encTs_map : ∀ l : List Typ, encTs l = l.map encT
 | [] => by simp [encTs]
 | v :: r => by simp [encTs, encTs_map r]
theorem encGs_map : ∀ l : List TFl, encGs l = l.map encG
 | [] => by simp [encGs]
 | v :: r => by simp [encGs, encGs_map r]
theorem encT_eq (t : Typ) : encT t = .agg [.int .i64 t.kind, .int .i64 t.min, .int .i64 t.max, .int .i64 t.scale, .list 1 (t.words.map .str), .list 7 (t.elem.map encT), .list 11 (t.fields.map encG)] := by
 cases t; simp [encT, encTs_map, encGs_map, Typ.kind, Typ.min, Typ.max, Typ.scale, Typ.words, Typ.elem, Typ.fields]
theorem encG_eq (f : TFl) : encG f = .agg [.int .i64 f.number, .str f.name, .int .i64 f.need, .int .i64 f.type.kind, .int .i64 f.type.min, .int .i64 f.type.max, .int .i64 f.type.scale,
  .list 1 (f.type.words.map .str), .list 7 (f.type.elem.map encT), .list 11 (f.type.fields.map encG), .list 6 (f.dflt.map encV)] := by
 cases f; simp [encG, encT_eq, TFl.number, TFl.name, TFl.need, TFl.type, TFl.dflt, Dat.cells]
theorem nth_encT {xs : List Typ} {k : Nat} (h : k < xs.length) : nth (xs.map encT) k = .agg [.int .i64 xs[k].kind, .int .i64 xs[k].min, .int .i64 xs[k].max, .int .i64 xs[k].scale, .list 1 (xs[k].words.map .str), .list 7 (xs[k].elem.map encT), .list 11 (xs[k].fields.map encG)] := by
 rw [nth_eq (sX h), List.getElem_map, encT_eq]
theorem nth_encG {xs : List TFl} {k : Nat} (h : k < xs.length) : nth (xs.map encG) k = .agg [.int .i64 xs[k].number, .str xs[k].name, .int .i64 xs[k].need, .int .i64 xs[k].type.kind, .int .i64 xs[k].type.min, .int .i64 xs[k].type.max, .int .i64 xs[k].type.scale,
  .list 1 (xs[k].type.words.map .str), .list 7 (xs[k].type.elem.map encT), .list 11 (xs[k].type.fields.map encG), .list 6 (xs[k].dflt.map encV)] := by
 rw [nth_eq (sX h), List.getElem_map, encG_eq]
theorem canonL_strT (l : List Str) : canonL (l.map .str) = l.map .str := by
 rw [canonL_map, List.map_map];exact List.map_congr_left fun p _ => by simp [Dat.canon]
mutual
theorem canon_encT : ∀ t : Typ, (encT t).canon = encT t
 | .mk k a b s w e f => by simp only [encT, Dat.canon, canonL, canonL_strT, canon_encTs e, canon_encGs f]
theorem canon_encTs : ∀ l : List Typ, canonL (encTs l) = encTs l
 | [] => by simp [encTs, canonL]
 | v :: r => by simp only [encTs, canonL, canon_encT v, canon_encTs r]
theorem canon_encG : ∀ f : TFl, (encG f).canon = encG f
 | .mk n m d t v => by
  have := canon_encT t;cases t with
  | mk k a b s w e f =>
   simp only [encT, Dat.canon, canonL, Dat.agg.injEq, List.cons.injEq, true_and, and_true, Dat.list.injEq] at this;simp only [encG, encT, Dat.cells, List.cons_append, List.nil_append, Dat.canon, canonL, canonL_vals, this]
theorem canon_encGs : ∀ l : List TFl, canonL (encGs l) = encGs l
 | [] => by simp [encGs, canonL]
 | v :: r => by simp only [encGs, canonL, canon_encG v, canon_encGs r]
end
theorem canonL_typs (l : List Typ) : canonL (l.map encT) = l.map encT := by rw [← encTs_map, canon_encTs]
theorem canonL_tfls (l : List TFl) : canonL (l.map encG) = l.map encG := by rw [← encGs_map, canon_encGs]
attribute [go_sem] canonL_strT canon_encT canon_encG canonL_typs canonL_tfls
end Av
namespace Go.Proofs
open Go Av
end Go.Proofs
namespace Go.Proofs
open Go Av
open Av.Y
def ir88 : Ic := q (R (ox 1 0<|ow 2 false<|N) [0,2])<|q (R (of 3 1 0<|ol 4 3<|oi 5 .eql 4 0<|om 6 5<|.sc 6 true (of 7 1 1<|ol 8 7<|oi 9 .eql 8 0<|N) (t 9) 10 (om 11 10<|.sc 11 true (of 12 1 2<|ol 13 12<|oi 14 .eql 13 0<|N) (t 14) 15 (om 16 15<|.sc 16 true (of 17 1 3<|ol 18 17<|ob 19 .seq (t 18) (.k (.str []))<|N) (t 19) 20 (om 21 20<|.sc 21 true (of 22 1 4<|ol 23 22<|oh 24 23<|oi 25 .eql 24 0<|N) (t 25) 26 (om 27 26<|.sc 27 true (of 28 1 5<|ol 29 28<|oh 30 29<|oi 31 .eql 30 0<|N) (t 31) 32 (om 2 32<|N)))))) [1,3,4,5,6,10,11,15,16,20,21,26,27,32])<|.ret
theorem ok88 : FT 88 33 ir88 [.tmp 2] := .o Tryz.func88
def asg30 : Ic := q (R (om 5 11<|N) [10,11])<|R (oN 6 v6<|oS 6 6 12<|N) [12]
def body30 : Ic := D (.block 1<|q (R (ol 13 4<|oi 14 .add 13 1<|os 4 14<|N) [13,14])<|q (D (.block 2<|q (R (ol 16 4<|oi 17 .gtr 16 4096<|om 15 17<|N) [4,16,17])<|I 15 (q (R (on (.sto none (t 2) (i 9))<|N) [2,3,5,6,15])<|.ret) (q (R (om 19 5<|oi 20 .gtr 19 8<|om 18 20<|N) [5,15,19,20])<|I 18 (q (R (on (.sto none (t 2) (i 23))<|N) [2,3,6,18])<|.ret) (q (R (oL 22 6 6<|cl 23 88 [t 22]<|om 21 23<|N) [18,22,23])<|I 21 (q (R (on (.sto none (t 2) (i 19))<|N) [2,3,6,21])<|.ret) (q (R (of 25 6 0<|ol 26 25<|oi 27 .lss 26 1<|om 28 27<|.sc 28 false (of 29 6 0<|ol 30 29<|oi 31 .gtr 30 10<|N) (t 31) 32 (om 24 32<|N)) [21,25,26,27,28,29,30,31,32])<|I 24 (q (R (on (.sto none (t 2) (i 11))<|N) [2,3,6,24])<|.ret) (q (R (oL 34 6 6<|cl 35 89 [t 34]<|og 36 35<|om 33 36<|N) [24,34,35,36])<|D (I 33 (q (R (on (.sto none (t 2) (i 3))<|N) [2,3,6,33])<|.ret) S) [33]))))) [4,5,16,17,15,19,20,18,22,23,21,25,26,27,28,29,30,31,32,24,34,35,36,33])<|q (R (of 37 6 0<|ol 38 37<|oo 39 (.ixr 11 1 (t 3) (t 38))<|ol 40 39<|oL 41 6 6<|.call (some 42) (.dyn (t 40)) [t 41] (om 7 42<|N)) [3,6,37,38,39,40,41,42])<|q (R (om 43 7<|oi 44 .neq 43 0<|N) [43])<|D (I 44 (q (R (om 45 7<|os 2 45<|N) [2,7,44,45])<|.ret) S) [2,7,44]) [2,3,4,5,6,13,14,16,17,15,19,20,18,22,23,21,25,26,27,28,29,30,31,32,24,34,35,36,33,37,38,39,40,41,42,7,43,44,45]
noncomputable def ir30 : Ic := q (R (ox 1 0<|oN 2 [.int .i64 0]<|N) [0])<|q (R (cl 8 86 []<|oN 3 [.nilFn,.nilFn,.nilFn,.nilFn,.nilFn,.nilFn,.nilFn,.nilFn,.nilFn,.nilFn,.nilFn]<|oS 11 3 8<|N) [8])<|q (.reg (oN 4 [.int .i64 0]<|on (.sto none (t 4) (i 0))<|N))<|q (q (R (oL 9 6 1<|cl 10 87 [t 9]<|N) [1,9])<|D (.block 0<|D (.rng (t 10) 46 57 #[11,12] (subC (codeOf Tryz.f30) [1,1,1,0,1,0,0]) (subC (codeOf Tryz.f30) [1,1,1,0,1,0,1]) asg30 body30) [3,4,10]) [3,4,10])<|q (.reg (on (.sto none (t 2) (i 0))<|N))<|.ret
theorem ok30 : FT 30 46 ir30 [.cell 2 none] := .o Tryz.func30
def ir86 : Ic := q (.reg (oN 0 [.nilFn,.nilFn,.nilFn,.nilFn,.nilFn,.nilFn,.nilFn,.nilFn,.nilFn,.nilFn,.nilFn]<|N))<|q (R (oo 1 (.bld [.nilFn,.nilFn,.nilFn,.nilFn,.nilFn,.nilFn,.nilFn,.nilFn,.nilFn,.nilFn,.nilFn] [(1,1,.k (.fn (.func 166) [] [])),(2,1,.k (.fn (.func 168) [] [])),(3,1,.k (.fn (.func 169) [] [])),(4,1,.k (.fn (.func 171) [] [])),(5,1,.k (.fn (.func 174) [] [])),(6,1,.k (.fn (.func 175) [] [])),(7,1,.k (.fn (.func 176) [] [])),(8,1,.k (.fn (.func 177) [] [])),(9,1,.k (.fn (.func 178) [] [])),(10,1,.k (.fn (.func 179) [] []))])<|oS 11 0 1<|N) [1])<|.ret
theorem ok86 : FT 86 2 ir86 [.cell 0 (some 11)] := .o Tryz.func86
def ir87 : Ic := q (R (ox 1 0<|ok 2 (.k .nilFn)<|N) [0,2])<|q (R (oo 3 (.fnv (.func 180) [] [t 1])<|om 2 3<|N) [1,3])<|.ret
theorem ok87 : FT 87 4 ir87 [.tmp 2] := .o Tryz.func87
def ir89 : Ic := q (R (ox 1 0<|ow 2 false<|N) [0,2])<|q (R (of 6 1 0<|ol 7 6<|oi 8 .eql 7 1<|om 9 8<|.sc 9 false (of 10 1 0<|ol 11 10<|oi 12 .eql 11 2<|N) (t 12) 13 (om 14 13<|.sc 14 false (of 15 1 0<|ol 16 15<|oi 17 .eql 16 6<|N) (t 17) 18 (om 19 18<|.sc 19 false (of 20 1 0<|ol 21 20<|oi 22 .eql 21 7<|N) (t 22) 23 (om 24 23<|.sc 24 false (of 25 1 0<|ol 26 25<|oi 27 .eql 26 3<|N) (t 27) 28 (om 3 28<|N))))) [6,7,8,9,13,14,18,19,23,24,28])<|q (R (of 29 1 0<|ol 30 29<|oi 31 .eql 30 4<|om 32 31<|.sc 32 false (of 33 1 0<|ol 34 33<|oi 35 .eql 34 5<|N) (t 35) 36 (om 37 36<|.sc 37 false (of 38 1 0<|ol 39 38<|oi 40 .eql 39 10<|N) (t 40) 41 (om 4 41<|N))) [29,30,31,32,36,37,41])<|q (R (of 42 1 0<|ol 43 42<|oi 44 .eql 43 8<|om 45 44<|.sc 45 false (of 46 1 0<|ol 47 46<|oi 48 .eql 47 10<|N) (t 48) 49 (om 5 49<|N)) [42,43,44,45,49])<|q (R (om 50 3<|om 51 50<|.sc 51 false (of 52 1 1<|ol 53 52<|oi 54 .eql 53 0<|N) (t 54) 55 (om 56 55<|.sc 56 true (of 57 1 0<|ol 58 57<|oi 59 .eql 58 3<|om 60 59<|.sc 60 false (of 61 1 2<|ol 62 61<|oi 63 .eql 62 0<|N) (t 63) 64 N) (t 64) 65 (om 66 65<|.sc 66 true (om 67 4<|om 68 67<|.sc 68 false (of 69 1 3<|ol 70 69<|ob 71 .seq (t 70) (.k (.str []))<|N) (t 71) 72 N) (t 72) 73 (om 74 73<|.sc 74 true (om 75 5<|om 76 75<|.sc 76 false (of 77 1 4<|ol 78 77<|oh 79 78<|oi 80 .eql 79 0<|N) (t 80) 81 N) (t 81) 82 (om 83 82<|.sc 83 true (of 84 1 0<|ol 85 84<|oi 86 .eql 85 9<|om 87 86<|.sc 87 false (of 88 1 5<|ol 89 88<|oh 90 89<|oi 91 .eql 90 0<|N) (t 91) 92 N) (t 92) 93 (om 2 93<|N)))))) [1,3,4,5,50,51,55,56,65,66,73,74,82,83,93])<|.ret
theorem ok89 : FT 89 94 ir89 [.tmp 2] := .o Tryz.func89
def ir166 : Ic := q (R (ox 1 0<|oz 2 0<|N) [0,2])<|q (R (of 3 1 1<|ol 4 3<|cl 5 167 [t 4,i 0,i 1]<|om 2 5<|N) [1,3,4,5])<|.ret
theorem ok166 : FT 166 6 ir166 [.tmp 2] := .o Tryz.func166
def ir167 : Ic := q (R (oz 6 0<|N) [6])<|q (q (R (om 7 0<|om 8 1<|ot 9 .lss 7 8<|om 10 9<|.sc 10 false (om 11 0<|om 12 2<|ot 13 .gtr 11 12<|N) (t 13) 14 N) [0,1,2,7,8,9,10])<|D (I 14 (q (R (oz 6 2<|N) [14])<|.ret) S) [14])<|q (.reg (oz 6 0<|N))<|.ret
theorem ok167 : FT 167 15 ir167 [.tmp 6] := .o Tryz.func167
def ir168 : Ic := q (R (ox 1 0<|oz 2 0<|N) [0,2])<|q (R (of 3 1 1<|ol 4 3<|cl 5 167 [t 4,i (-999999999999999),i 999999999999999]<|om 2 5<|N) [1,3,4,5])<|.ret
theorem ok168 : FT 168 6 ir168 [.tmp 2] := .o Tryz.func168
def ir169 : Ic := q (R (ox 1 0<|oz 2 0<|N) [0,2])<|q (D (.regd [(2,4)] (of 3 1 1<|ol 4 3<|cl 5 167 [t 4,i (-999999999999999),i 999999999999999]<|of 6 1 2<|ol 7 6<|cl 8 167 [t 7,i 0,i 12]<|oo 9 (.bls 1 [t 5,t 8])<|cl 10 170 [t 9]<|om 2 10<|N)) [1,3,4,5,6,7,8,9,10])<|.ret
theorem ok169 : FT 169 11 ir169 [.tmp 2] := .o Tryz.func169
def ir170 : Ic := q (R (oz 2 0<|N) [2])<|q (q (R (om 5 0<|oh 6 5<|oz 7 0<|N) [0])<|D (.block 0<|.loop (q (.reg (ot 8 .lss 7 6<|N))<|q (D (I 8 S (E 0)) [8])<|q (D (.block 1<|q (R (oa false 9 1 5 7<|ol 10 9<|om 4 10<|N) [9,10])<|q (R (om 11 4<|oi 12 .neq 11 0<|N) [11])<|D (I 12 (q (R (om 13 4<|om 2 13<|N) [5,6,7,4,12,13])<|.ret) S) [4,12]) [])<|R (oi 14 .add 7 1<|om 7 14<|N) [14])) [5,6,7,8,9,10,4,11])<|q (.reg (oz 2 0<|N))<|.ret
theorem ok170 : FT 170 15 ir170 [.tmp 2] := .o Tryz.func170
def ir171 : Ic := q (R (ox 1 0<|oz 2 0<|N) [0,2])<|q (R (of 4 1 3<|ol 5 4<|oj 6 5<|cl 7 172 [t 6,i 1024,i 5]<|om 3 7<|N) [4,5,6,7])<|q (q (R (om 8 3<|oi 9 .eql 8 0<|om 10 9<|.sc 10 true (of 11 1 3<|ol 12 11<|cl 13 173 [t 12]<|og 14 13<|N) (t 14) 15 N) [1,8,9,10])<|D (I 15 (R (oz 3 16<|N) [15]) S) [15])<|q (R (om 16 3<|om 2 16<|N) [3,16])<|.ret
theorem ok171 : FT 171 17 ir171 [.tmp 2] := .o Tryz.func171
def ir172 : Ic := q (R (oz 6 0<|N) [6])<|q (q (R (om 7 0<|om 8 1<|ot 9 .gtr 7 8<|N) [0,1,7,8])<|D (I 9 (q (R (om 10 2<|om 6 10<|N) [2,9,10])<|.ret) S) [2,9])<|q (.reg (oz 6 0<|N))<|.ret
theorem ok172 : FT 172 11 ir172 [.tmp 6] := .o Tryz.func172
def ir174 : Ic := q (R (ox 1 0<|oz 2 0<|N) [0,2])<|q (R (of 3 1 3<|ol 4 3<|oj 5 4<|cl 6 172 [t 5,i 1024,i 5]<|om 2 6<|N) [1,3,4,5,6])<|.ret
theorem ok174 : FT 174 7 ir174 [.tmp 2] := .o Tryz.func174
def ir175 : Ic := q (R (ox 1 0<|oz 2 0<|N) [0,2])<|q (R (of 3 1 1<|ol 4 3<|cl 5 167 [t 4,i (-719162),i 2932896]<|om 2 5<|N) [1,3,4,5])<|.ret
theorem ok175 : FT 175 6 ir175 [.tmp 2] := .o Tryz.func175
def ir176 : Ic := q (R (ox 1 0<|oz 2 0<|N) [0,2])<|q (R (of 3 1 1<|ol 4 3<|cl 5 167 [t 4,i (-62135596800000),i 253402300799999]<|om 2 5<|N) [1,3,4,5])<|.ret
theorem ok176 : FT 176 6 ir176 [.tmp 2] := .o Tryz.func176
def ir177 : Ic := q (R (ox 1 0<|oz 2 0<|N) [0,2])<|q (R (of 3 1 4<|ol 4 3<|oh 5 4<|cl 6 172 [t 5,i 256,i 9]<|om 2 6<|N) [1,3,4,5,6])<|.ret
theorem ok177 : FT 177 7 ir177 [.tmp 2] := .o Tryz.func177
def ir178 : Ic := q (R (ox 1 0<|oz 2 0<|N) [0,2])<|q (q (R (of 6 1 5<|ol 7 6<|oh 8 7<|cl 9 172 [t 8,i 64,i 9]<|om 3 9<|N) [6,7,8,9])<|q (R (om 10 3<|oi 11 .neq 10 0<|N) [10])<|D (I 11 (q (R (om 12 3<|om 2 12<|N) [1,3,11,12])<|.ret) S) [3,11])<|q (q (R (of 13 1 5<|ol 14 13<|oh 15 14<|oz 16 0<|N) [13])<|D (.block 0<|.loop (q (.reg (ot 17 .lss 16 15<|N))<|q (D (I 17 S (E 0)) [17])<|q (D (.block 1<|q (R (om 18 16<|oa true 19 7 14 16<|oL 20 7 19<|oN 5 v7<|om 4 18<|oS 7 5 20<|N) [18,19,20])<|D (.block 2<|q (R (of 22 5 0<|ol 23 22<|cl 24 151 [t 23]<|og 25 24<|om 21 25<|N) [22,23,24,25])<|D (I 21 (q (R (oz 2 12<|N) [1,14,15,16,5,4,21])<|.ret) (q (R (om 27 4<|oi 28 .gtr 27 0<|om 29 28<|.sc 29 true (of 30 5 0<|ol 31 30<|of 32 1 5<|ol 33 32<|om 34 4<|oi 35 .sub 34 1<|oa true 36 7 33 35<|of 37 36 0<|ol 38 37<|ot 39 .seq 31 38<|N) (t 39) 40 (om 26 40<|N)) [21,27,28,29,40])<|D (I 26 (q (R (oz 2 7<|N) [1,14,15,16,5,4,26])<|.ret) (q (R (om 42 4<|oi 43 .gtr 42 0<|om 44 43<|.sc 44 true (of 45 5 0<|ol 46 45<|of 47 1 5<|ol 48 47<|om 49 4<|oi 50 .sub 49 1<|oa true 51 7 48 50<|of 52 51 0<|ol 53 52<|ot 54 .slt 46 53<|N) (t 54) 55 (om 41 55<|N)) [5,4,26,42,43,44,55])<|D (I 41 (q (R (oz 2 24<|N) [1,14,15,16,41])<|.ret) S) [41])) [])) []) []) [])<|R (oi 56 .add 16 1<|om 16 56<|N) [56])) [1,14,15,16,17,5,4])<|q (.reg (oz 2 0<|N))<|.ret
theorem ok178 : FT 178 57 ir178 [.tmp 2] := .o Tryz.func178
def ir179 : Ic := q (R (ox 1 0<|oz 2 0<|N) [0,2])<|q (D (.block 0<|q (R (of 4 1 3<|ol 5 4<|cl 6 151 [t 5]<|og 7 6<|om 3 7<|N) [4,5,6,7])<|D (I 3 (q (R (oz 2 12<|N) [1,3])<|.ret) (q (R (of 9 1 4<|ol 10 9<|oh 11 10<|oi 12 .eql 11 0<|om 8 12<|N) [3,9,10,11,12])<|D (I 8 (q (R (oz 2 4<|N) [1,8])<|.ret) S) [8])) []) [])<|q (R (of 13 1 4<|ol 14 13<|oh 15 14<|cl 16 172 [t 15,i 1,i 3]<|om 2 16<|N) [1,13,14,15,16])<|.ret
theorem ok179 : FT 179 17 ir179 [.tmp 2] := .o Tryz.func179
def ir180 : Ic := R (oL 3 6 1<|om 4 0<|cl 5 181 [t 3,i 1,t 4]<|N) [0,3,4,5]
theorem ok180 : FT 180 6 ir180 [] := .o Tryz.func180
def ir181 : Ic := q (R (ox 3 0<|ow 6 false<|N) [0,6])<|q (q (R (om 9 2<|om 10 1<|oL 11 6 3<|.call (some 12) (.dyn (t 9)) [t 10,t 11] (og 13 12<|N)) [9,10,11,12])<|D (I 13 (q (R (ow 6 false<|N) [1,2,3,13])<|.ret) S) [13])<|q (q (R (oL 14 6 3<|cl 15 241 [t 14]<|oh 16 15<|oz 17 0<|N) [3,14])<|D (.block 0<|.loop (q (.reg (ot 18 .lss 17 16<|N))<|q (D (I 18 S (E 0)) [18])<|q (D (.block 1<|q (R (oa true 19 6 15 17<|oL 20 6 19<|oN 8 v6<|oS 6 8 20<|N) [19,20])<|q (R (oL 21 6 8<|om 22 1<|oi 23 .add 22 1<|om 24 2<|cl 25 181 [t 21,t 23,t 24]<|og 26 25<|N) [8,21,22,23,24,25])<|D (I 26 (q (R (ow 6 false<|N) [1,2,15,16,17,26])<|.ret) S) [26]) [])<|R (oi 27 .add 17 1<|om 17 27<|N) [27])) [1,2,15,16,17,18,8])<|q (.reg (ow 6 true<|N))<|.ret
theorem ok181 : FT 181 28 ir181 [.tmp 6] := .o Tryz.func181
def ir241 : Ic := q (R (ox 1 0<|ok 2 (.k (.nil 6))<|N) [0,2])<|q (q (R (of 6 1 0<|ol 7 6<|N) [6])<|D (.block 0<|q (q (R (oi 9 .eql 7 8<|om 8 9<|N) [9])<|I 8 S (R (oi 10 .eql 7 10<|om 8 10<|N) [10]))<|D (I 8 (q (R (of 11 1 4<|ol 12 11<|om 2 12<|N) [1,7,8,11,12])<|.ret) (q (R (oi 14 .eql 7 9<|om 13 14<|N) [7,8,14])<|D (I 13 (q (R (ok 3 (.k (.nil 6))<|N) [13])<|q (q (R (of 15 1 5<|ol 16 15<|oh 17 16<|oz 18 0<|N) [1,15])<|D (.block 1<|.loop (q (.reg (ot 19 .lss 18 17<|N))<|q (D (I 19 S (E 1)) [19])<|q (D (.block 2<|q (R (oa true 20 7 16 18<|oL 21 7 20<|oN 5 v7<|oS 7 5 21<|N) [20,21])<|R (om 22 3<|of 23 5 1<|oL 24 6 23<|oo 25 (.bls 6 [t 24])<|oo 26 (.app 6 (t 22) (t 25))<|om 3 26<|N) [5,22,23,24,25,26]) [])<|R (oi 27 .add 18 1<|om 18 27<|N) [27])) [16,17,18,19,5])<|q (R (om 28 3<|om 2 28<|N) [3,28])<|.ret) S) [1,13])) []) [10,11,3,5])<|q (.reg (ok 2 (.k (.nil 6))<|N))<|.ret
theorem ok241 : FT 241 29 ir241 [.tmp 2] := .o Tryz.func241
end Go.Proofs
namespace Go.Proofs
open Go Av Go.RowKit
def btw (n lo hi : Int) : Int := if decide (n < lo) || decide (n > hi) then 2 else 0
theorem walk167 (n lo hi : Int) : PT 167 [.int .i64 n, .int .i64 lo, .int .i64 hi] (.d (.int .i64 (btw n lo hi))) := by
 refine ok167.pc ?_;simp only [go_sem, ir167, simprocAttr];refine sq (decide (n > hi)) ?_ ?_
 ·exact zz trivial
 refine zz ?_;apply ik <;> intro h
 ·rw [btw, if_pos h]
 ·rw [btw, if_neg (by simp [h])]
def szE (n m e : Int) : Int := if decide (n > m) then e else 0
theorem walk172 (n m e : Int) : PT 172 [.int .i64 n, .int .i64 m, .int .i64 e] (.d (.int .i64 (szE n m e))) := by
 refine ok172.pc ?_;simp only [go_sem, ir172, simprocAttr];apply ik <;> intro h
 ·rw [szE, if_pos h]
 ·rw [szE, if_neg (by simp [h])]
theorem walk166 (v : Val) : PT 166 [encV v] (.d (.int .i64 (btw v.int 0 1))) := by
 refine ok166.pc ?_;rw [encV_eq];simp only [go_sem, ir166, List.length_map, simprocAttr];refine wc ((walk167 _ _ _).call trivial) trivial
theorem walk168 (v : Val) : PT 168 [encV v] (.d (.int .i64 (btw v.int (-999999999999999) 999999999999999))) := by
 refine ok168.pc ?_;rw [encV_eq];simp only [go_sem, ir168, List.length_map, simprocAttr];refine wc ((walk167 _ _ _).call trivial) trivial
theorem walk175 (v : Val) : PT 175 [encV v] (.d (.int .i64 (btw v.int (-719162) 2932896))) := by
 refine ok175.pc ?_;rw [encV_eq];simp only [go_sem, ir175, List.length_map, simprocAttr];refine wc ((walk167 _ _ _).call trivial) trivial
theorem walk176 (v : Val) : PT 176 [encV v] (.d (.int .i64 (btw v.int (-62135596800000) 253402300799999))) := by
 refine ok176.pc ?_;rw [encV_eq];simp only [go_sem, ir176, List.length_map, simprocAttr];refine wc ((walk167 _ _ _).call trivial) trivial
theorem walk174 (v : Val) : PT 174 [encV v] (.d (.int .i64 (szE v.text.length 1024 5))) := by
 refine ok174.pc ?_;rw [encV_eq];simp only [go_sem, ir174, List.length_map, simprocAttr];refine wc ((walk172 _ _ _).call trivial) trivial
theorem walk177 (v : Val) : PT 177 [encV v] (.d (.int .i64 (szE v.list.length 256 9))) := by
 refine ok177.pc ?_;rw [encV_eq];simp only [go_sem, ir177, List.length_map, simprocAttr];refine wc ((walk172 _ _ _).call trivial) trivial
def fstE : List Int → Int
 | [] => 0
 | x :: r => if x != 0 then x else fstE r
theorem walk170 (l : List Int) (hl : l.length ≤ 68719476736) : PT 170 [.list 1 (l.map fun x => .int .i64 x)] (.d (.int .i64 (fstE l))) := by
 refine ok170.pc ?_;simp only [go_sem, ir170, List.length_map, simprocAttr];generalize hR : fstE l = R;refine wpc_loop (fun n s => ∃ k : Nat, k ≤ l.length ∧ n = l.length - k ∧ R = fstE (l.drop k) ∧
  s = ⟨[(5, .d (.list 1 (l.map fun x => .int .i64 x))), (6, .d (.int .i64 l.length)), (7, .d (.int .i64 k))], []⟩) ?_ ?_
 ·exact ⟨_, _, Wk.refl _, 0, Nat.zero_le _, rfl, hR.symm, rfl⟩
 ·rintro n s ⟨k, hk, rfl, hinv, rfl⟩;by_cases hlt : k < l.length
  ·have hx : nth (l.map fun x => Dat.int .i64 x) k = .int .i64 l[k] := by rw [nth_eq (sX hlt)]; simp
   have hd := dT hlt;rw [List.drop_eq_getElem_cons hlt, fstE] at hinv;refine zz6 ?_;refine ⟨oM, dC, fun hf => ?_, fun hf => ?_⟩
   ·rw [if_pos hf] at hinv;rw [hinv]
   ·rw [if_neg (by simp [hf])] at hinv;refine ⟨l.length - (k + 1), _, oM, Wk.less ?_, k + 1, oM, rfl, hinv, rfl⟩;exact zz7 trivial
  ·have hd := dF hlt;obtain rfl : k = l.length := oM;rw [List.drop_length, fstE] at hinv;simp only [go_sem, hd, hinv, simprocAttr]
theorem walk169 (v : Val) : PT 169 [encV v] (.d (.int .i64 (fstE [btw v.int (-999999999999999) 999999999999999, btw v.scale 0 12]))) := by
 refine ok169.pc ?_;rw [encV_eq];simp only [go_sem, ir169, simprocAttr];refine wpsL_call rfl ((walk167 _ _ _).call trivial) trivial ?_;refine zz ?_;refine wpsL_call rfl ((walk167 _ _ _).call trivial) trivial ?_;refine zz ?_;refine ⟨sP, ?_⟩;refine wpsL_call rfl ((walk170 [btw v.int (-999999999999999) 999999999999999, btw v.scale 0 12] sP).call trivial) trivial ?_;refine zz ?_;rfl
def nullV (v : Val) : Bool := (v.kind == 0) && (v.int == 0) && (v.scale == 0) && (v.text == []) && (((v.list.length : Nat) : Int) == 0) && (((v.fields.length : Nat) : Int) == 0)
theorem walk88 (v : Val) : PT 88 [encV v] (.d (.bool (nullV v))) := by
 refine ok88.pc ?_;rw [encV_eq];simp only [go_sem, ir88, simprocAttr];refine sq (v.int == 0) ?_ ?_
 ·exact zz trivial
 refine zz ?_;refine sq (v.scale == 0) ?_ ?_
 ·exact zz trivial
 refine zz ?_;refine sq (v.text == []) ?_ ?_
 ·exact zz trivial
 refine zz ?_;refine sq (((v.list.length : Nat) : Int) == 0) ?_ ?_
 ·exact zz4 trivial
 refine zz ?_;refine sq (((v.fields.length : Nat) : Int) == 0) ?_ ?_
 ·exact zz4 trivial
 simp only [go_sem, nullV, simprocAttr]
def useN (v : Val) : Bool := (v.kind == 1) || (v.kind == 2) || (v.kind == 6) || (v.kind == 7) || (v.kind == 3)
def useT (v : Val) : Bool := (v.kind == 4) || (v.kind == 5) || (v.kind == 10)
def useL (v : Val) : Bool := (v.kind == 8) || (v.kind == 10)
def usesV (v : Val) : Bool := (useN v || (v.int == 0)) && ((v.kind == 3) || (v.scale == 0)) && (useT v || (v.text == [])) && (useL v || (((v.list.length : Nat) : Int) == 0)) && ((v.kind == 9) || (((v.fields.length : Nat) : Int) == 0))
theorem walk89 (v : Val) : PT 89 [encV v] (.d (.bool (usesV v))) := by
 refine ok89.pc ?_;rw [encV_eq];simp only [go_sem, ir89, simprocAttr];refine sq (v.kind == 2) ?_ ?_
 ·exact zz trivial
 refine zz ?_;refine sq (v.kind == 6) ?_ ?_
 ·exact zz trivial
 refine zz ?_;refine sq (v.kind == 7) ?_ ?_
 ·exact zz trivial
 refine zz ?_;refine sq (v.kind == 3) ?_ ?_
 ·exact zz trivial
 refine zz ?_;refine sq (v.kind == 5) ?_ ?_
 ·exact zz trivial
 refine zz ?_;refine sq (v.kind == 10) ?_ ?_
 ·exact zz trivial
 refine zz ?_;refine sq (v.kind == 10) ?_ ?_
 ·exact zz trivial
 refine zz ?_;refine sq (v.int == 0) ?_ ?_
 ·exact zz trivial
 refine zz ?_;refine sq ((v.kind == 3) || (v.scale == 0)) ?_ ?_
 ·refine zz ?_;refine sq (v.scale == 0) ?_ ?_
  ·exact zz trivial
  exact zz trivial
 refine zz ?_;refine sq (useT v || (v.text == [])) ?_ ?_
 ·refine zz ?_;refine sq (v.text == []) ?_ ?_
  ·exact zz trivial
  simp only [go_sem, useT, simprocAttr]
 refine zz ?_;refine sq (useL v || (((v.list.length : Nat) : Int) == 0)) ?_ ?_
 ·refine zz ?_;refine sq (((v.list.length : Nat) : Int) == 0) ?_ ?_
  ·exact zz4 trivial
  simp only [go_sem, useL, simprocAttr]
 refine zz ?_;refine sq ((v.kind == 9) || (((v.fields.length : Nat) : Int) == 0)) ?_ ?_
 ·refine zz ?_;refine sq (((v.fields.length : Nat) : Int) == 0) ?_ ?_
  ·exact zz4 trivial
  exact zz trivial
 simp only [go_sem, usesV, useN, simprocAttr]
def partsV (v : Val) : List Val := if v.kind = 8 ∨ v.kind = 10 then v.list else if v.kind = 9 then v.fields.map Fld.value else []
theorem partsV_len (v : Val) (h : v.list.length ≤ 68719476736) (h2 : v.fields.length ≤ 68719476736) : (partsV v).length ≤ 68719476736 := by
 unfold partsV;split
 ·exact h
 ·split
  ·simpa using h2
  ·simp
theorem walk241 (v : Val) (h2 : v.fields.length ≤ 68719476736) : PT 241 [encV v] (.d (.list 6 ((partsV v).map encV))) := by
 refine ok241.pc ?_;rw [encV_eq];by_cases h : v.kind = 8 ∨ v.kind = 10
 ·have hp : partsV v = v.list := by unfold partsV; rw [if_pos h]
  rw [hp];rcases h with h | h
  ·rw [h];simp only [go_sem, ir241, beq_self_eq_true, simprocAttr]
  ·rw [h];have q : ((10 : Int) == 8) = false := rfl;simp only [go_sem, ir241, q, beq_self_eq_true, simprocAttr]
 ·have q8 : (v.kind == 8) = false := sO;have q10 : (v.kind == 10) = false := sO;by_cases h9 : v.kind = 9
  ·have hp : partsV v = v.fields.map Fld.value := by unfold partsV; rw [if_neg h, if_pos h9]
   rw [hp];have q9 : (v.kind == 9) = true := by simp [h9]
   simp only [go_sem, ir241, q8, q9, q10, List.length_map, simprocAttr];refine wpc_loop (fun n s => ∃ k : Nat, k ≤ v.fields.length ∧ n = v.fields.length - k ∧
    s = ⟨[(3, .ms 26 k), (16, .d (.list 7 (v.fields.map encF))), (17, .d (.int .i64 v.fields.length)), (18, .d (.int .i64 k))], [(26, .row k 6 (((v.fields.take k).map Fld.value).map encV))]⟩) ?_ ?_
   ·refine ⟨_, _, (Wk.nilT 3 26 6 rfl rfl dC).trans (Wk.less ?_), 0, Nat.zero_le _, rfl, rfl⟩;simp [put, go_sem]
   ·rintro n s ⟨k, hk, rfl, rfl⟩;by_cases hlt : k < v.fields.length
    ·have hx := nth_encF hlt;have hd := dT hlt;refine zz6 ?_;refine ⟨⟨oM, oM⟩, sP, sO, v.fields.length - (k + 1), _, oM, Wk.less ?_, k + 1, oM, rfl, rfl⟩;simp only [go_sem, wrap64s k oM, List.take_succ_eq_append_getElem hlt, List.map_append, List.map_cons, List.map_nil, encV_eq, simprocAttr]
    ·have hd := dF hlt;obtain rfl : k = v.fields.length := oM;exact zz14 trivial
  ·have hp : partsV v = [] := by unfold partsV; rw [if_neg h, if_neg h9]
   rw [hp];have q9 : (v.kind == 9) = false := by simp [h9]
   simp only [go_sem, ir241, q8, q9, q10, List.map_nil, simprocAttr]
end Go.Proofs
namespace Go.Proofs
open Go Av
open Av.Y
end Go.Proofs
namespace Go.Proofs
open Go Av
open Av.Y
end Go.Proofs
namespace Go.Proofs
open Go Av
def zeroV : Val := .mk 0 0 0 [] [] []
end Go.Proofs
namespace Go.Proofs
open Go Av
open Av.Y
end Go.Proofs
namespace Go.Proofs
open Go Av
def mC (env : Val) (x : Int) : List Dat := [.int .i64 env.kind, .int .i64 env.int, .int .i64 env.scale, .str env.text, .list 6 (env.list.map encV), .list 7 (env.fields.map encF), .int .i64 x]
abbrev mO (env : Val) (x : Int) : Av.Obj := .box ((mC env x).map .d)
abbrev MCon (f : Nat) (ds : List Dat) (env : Val) (x : Int) (v : Av) (y : Int) : Prop := KT f (.ref 1000 0 :: ds.map .d) [(1000, mO env x)] v [(1000, mO env y)]
theorem MCon.to {f : Nat} {ds : List Dat} {env : Val} {x y : Int} {v : Av} (h : MCon f ds env x v y) (hv : pureR v) : CT f (.ref 1000 0 :: ds.map .d) [(1000, some (mO env x))] v [(1000, mO env y)] := Con.rw1 h hv 1000
end Go.Proofs
namespace Go.Proofs
open Go Av
open Av.Y
end Go.Proofs
namespace Go.Proofs
open Go Av
end Go.Proofs
namespace Go.Proofs
open Go Av
open Av.Y
def ir216 : Ic := q (.reg (oN 2 v6<|N))<|q (R (om 3 0<|oo 4 (.bld v6 [(0,1,i 4),(3,1,t 3)])<|oS 6 2 4<|N) [0,3,4])<|.ret
theorem ok216 : FT 216 5 ir216 [.cell 2 (some 6)] := .o Tryz.func216
end Go.Proofs
namespace Go.Proofs
open Go Av
theorem fits_V3 {v : Val} (h : fits (encV v)) : v.text.length ≤ 68719476736 ∧ v.list.length ≤ 68719476736 ∧ v.fields.length ≤ 68719476736 := by
 rw [encV_eq] at h;simp only [fits, fitsL, List.length_map, and_true] at h;exact ⟨h.2.2.2.1, h.2.2.2.2.1.1, h.2.2.2.2.2.1⟩
theorem walk216 (s : Str) : PT 216 [.str s] (.d (encV (.mk 4 0 0 s [] []))) := by
 refine ok216.pc ?_;simp only [go_sem, ir216, simprocAttr];rfl
end Go.Proofs
namespace Go.Proofs
open Go Av
open Av.Y
end Go.Proofs
namespace Go.Proofs
open Go Av
end Go.Proofs
namespace Go.Proofs
open Go Av Go.RowKit
theorem fits_V {v : Val} (h : fits (encV v)) : v.text.length ≤ 68719476736 ∧ v.list.length ≤ 68719476736 ∧ v.fields.length ≤ 68719476736 ∧ (∀ x ∈ v.list, fits (encV x)) ∧ ∀ f ∈ v.fields, f.name.length ≤ 68719476736 ∧ fits (encV f.value) := by
 rw [encV_eq] at h;simp only [fits, fitsL, List.length_map, and_true] at h;obtain ⟨_, _, _, h1, ⟨h2, h3⟩, h4, h5⟩ := h;refine ⟨h1, h2, h4, fun x hx => fitsL_iff.1 h3 _ (List.mem_map.2 ⟨x, hx, rfl⟩), fun f hf => ?_⟩;have := fitsL_iff.1 h5 _ (List.mem_map.2 ⟨f, hf, rfl⟩);rw [encF_eq] at this;simp only [fits, fitsL, and_true] at this;refine ⟨this.1, ?_⟩;rw [encV_eq];simp only [fits, fitsL, and_true];exact this.2
theorem u8Of {A : Nat → Prop} {w : World} {g : Nat} {cs : List Dat} (h : GRep A w g cs) (j : Nat) (n : Int) (hj : cs[j]? = some (.int .u8 n)) : w.cell? ⟨g, j, none⟩ = some (.int .u8 n) := by
 obtain ⟨h0, C, T, fr, h1, h2, h3, h4⟩ := h;have hlt : j < C.size := by rw [← h2]; exact (List.getElem?_eq_some_iff.1 hj).1
 have := h4 j _ C[j] hj (by simp [hlt]);generalize hz : C[j] = z at this;cases this;simp [World.cell?, h1, hlt, hz]
theorem utabs {A : Nat → Prop} {w : World} (hg : ∀ g cs, globOf g = some cs → GRep A w g cs) : Lib.Utf8Tabs 0 1 w := by
 have h0 := hg 0 tab0 rfl;have h1 := hg 1 tab1 rfl;refine ⟨fun c hc => u8Of h0 c _ (by simp [tab0, hc]), fun i hi => ?_⟩;have e0 : tab1[2 * i]? = some (.int .u8 (Lib.accLo i)) ∧ tab1[2 * i + 1]? = some (.int .u8 (Lib.accHi i)) := by
  match i, hi with
  | 0, _ | 1, _ | 2, _ | 3, _ | 4, _ | 5, _ | 6, _ | 7, _ | 8, _ | 9, _ | 10, _ | 11, _ | 12, _ | 13, _ | 14, _ | 15, _ => exact ⟨rfl, rfl⟩
  | n + 16, h => omega
 exact ⟨u8Of h1 _ _ e0.1, u8Of h1 _ _ e0.2⟩
def validS (s : Str) : Bool := Lib.validD s
theorem call173 (s : Str) : CT 173 [.d (.str s)] [] (.d (.bool (validS s))) [] := by
 refine CallOK.of_callsG (ds := [.str s]) (hasT Tryz.func173 kR kR) ?_;intro A w vs hg hl hv;obtain ⟨x, rfl⟩ := one_arg hl;have hx := hv 0 _ x rfl rfl;cases hx with
 | str _ h =>
  have e : (⟨s.toArray⟩ : ByteArray).data.toList = s := sP;have hsz : (⟨s.toArray⟩ : ByteArray).size = s.length := by simp [ByteArray.size]
  refine (Any.utf8_ValidString Tryz.laysValid ⟨s.toArray⟩ w oM (utabs hg)).mono ?_;rintro e' w' ⟨rfl, hb⟩;rw [e];exact ⟨_, rfl, hb, fun β H => .d _ _ (.bool _)⟩
def textE (v : Val) : Int := if szE v.text.length 1024 5 == 0 && !validS v.text then 16 else szE v.text.length 1024 5
theorem walk171 (v : Val) : PT 171 [encV v] (.d (.int .i64 (textE v))) := by
 refine ok171.pc ?_;rw [encV_eq];simp only [go_sem, ir171, simprocAttr];refine wc ((walk172 _ _ _).call trivial) ?_;refine sq (!validS v.text) ?_ ?_
 ·refine zz ?_;refine wc (call173 _) trivial
 refine zz ?_;apply ik <;> intro h
 ·rw [textE, if_pos h]
 ·rw [textE, if_neg (by simp [h])]
theorem walk151' (s : Str) : PT 151 [.str s] (.d (.bool (nameS s))) := PCon.of_fits ok151.has fun h => walk151 s (h _ (List.mem_singleton.2 rfl))
def varE (v : Val) : Int := if !nameS v.text then 12 else if ((v.list.length : Nat) : Int) == 0 then 4 else szE v.list.length 1 3
theorem walk179 (v : Val) : PT 179 [encV v] (.d (.int .i64 (varE v))) := by
 refine ok179.pc ?_;rw [encV_eq];simp only [go_sem, ir179, simprocAttr];refine wn ((walk151' _).call trivial) ?_;refine zz4 ?_;refine ⟨fun h => ?_, fun h => ⟨fun h2 => ?_, fun h2 => ?_⟩⟩
 ·rw [varE, if_pos h]
 ·rw [varE, if_neg (by simp [h]), if_pos h2]
 ·rw [varE, if_neg (by simp [h]), if_neg (by simp [h2])];refine wc ((walk172 _ _ _).call trivial) trivial
def recE : Option Str → List Fld → Int
 | _, [] => 0
 | none, f :: r => if !nameS f.name then 12 else recE (some f.name) r
 | some p, f :: r => if !nameS f.name then 12 else if f.name == p then 7 else if strLt f.name p then 24 else recE (some f.name) r
def recV (v : Val) : Int := if szE v.fields.length 64 9 != 0 then szE v.fields.length 64 9 else recE none v.fields
def prevN (l : List Fld) : Nat → Option Str
 | 0 => none
 | k + 1 => l[k]?.map Fld.name
theorem walk178 (v : Val) : PT 178 [encV v] (.d (.int .i64 (recV v))) := by
 refine PCon.of_fits ok178.has fun hfit => ?_
 obtain ⟨_, _, hfl, _, _⟩ := fits_V (hfit _ (List.mem_singleton.2 rfl));refine ok178.pc ?_;rw [encV_eq];simp only [go_sem, ir178, List.length_map, Nat.reduceAdd, Nat.reduceEqDiff, Nat.reduceBEq, Nat.reduceLeDiff, reduceCtorEq, ↓reduceIte];refine wc ((walk172 _ _ _).call trivial) ?_;apply ik <;> intro h
 ·rw [recV, if_pos h]
 rw [recV, if_neg (by simp [h])];refine zz4 ?_;generalize hR : recE none v.fields = R;refine wpc_loop (fun n s => ∃ k : Nat, k ≤ v.fields.length ∧ n = v.fields.length - k ∧ R = recE (prevN v.fields k) (v.fields.drop k) ∧
  s = ⟨[(1, .ref 1 0), (14, .d (.list 7 (v.fields.map encF))), (15, .d (.int .i64 v.fields.length)), (16, .d (.int .i64 k))],
   [(1, .box [.d (.int .i64 v.kind), .d (.int .i64 v.int), .d (.int .i64 v.scale), .d (.str v.text), .d (.list 6 (v.list.map encV)), .d (.list 7 (v.fields.map encF))])]⟩) ?_ ?_
 ·exact ⟨_, _, Wk.refl _, 0, Nat.zero_le _, rfl, hR.symm, rfl⟩
 ·rintro n s ⟨k, hk, rfl, hinv, rfl⟩;by_cases hlt : k < v.fields.length
  ·have hx := nth_encF hlt;have hd := dT hlt;rw [List.drop_eq_getElem_cons hlt] at hinv;refine zz6 ?_;refine ⟨oM, wn ((walk151' _).call trivial) ?_⟩;refine zz ?_;apply ik <;> intro h12
   ·have : R = 12 := by
     rw [hinv];cases prevN v.fields k <;> simp only [recE, h12, ↓reduceIte]
    rw [this]
   cases k with
   | zero =>
    simp only [prevN, recE, h12, Bool.false_eq_true, ↓reduceIte] at hinv;have hg : decide (((0 : Nat) : Int) > 0) = false := rfl;simp only [go_sem, hg, Nat.reduceAdd, Nat.reduceEqDiff, Nat.reduceBEq, Nat.reduceLeDiff, reduceCtorEq, ↓reduceIte];have hp : prevN v.fields (0 + 1) = some v.fields[0].name := by simp [prevN, hlt]
    refine ⟨v.fields.length - 1, _, oM, Wk.less ?_, 0 + 1, oM, rfl, by rw [hp]; exact hinv, rfl⟩;simp only [go_sem, wrap64s 0 oM, Nat.reduceAdd, Nat.reduceEqDiff, Nat.reduceBEq, Nat.reduceLeDiff, reduceCtorEq, ↓reduceIte]
   | succ k =>
    have hlt' : k < v.fields.length := oM;have hx' := nth_encF hlt';have hp : prevN v.fields (k + 1) = some v.fields[k].name := by simp [prevN, hlt']
    have hp2 : prevN v.fields (k + 1 + 1) = some v.fields[k + 1].name := by simp [prevN, hlt]
    rw [hp] at hinv;simp only [recE, h12, Bool.false_eq_true, ↓reduceIte] at hinv;have hg : decide (((k + 1 : Nat) : Int) > 0) = true := sP;have hw : IntKind.i64.wrap (((k + 1 : Nat) : Int) - 1) = k := by rw [wrap64 oM oM]; omega
    simp only [go_sem, hg, hw, hx', Int.toNat_natCast, List.length_map, Nat.reduceAdd, Nat.reduceEqDiff, Nat.reduceBEq, Nat.reduceLeDiff, reduceCtorEq, ↓reduceIte];refine ⟨⟨oM, oM⟩, dC, fun q => ?_, fun q => ⟨⟨oM, oM⟩, dC, fun q2 => ?_, fun q2 => ?_⟩⟩
    ·rw [if_pos q] at hinv;rw [hinv]
    ·rw [if_neg (by simp [q]), if_pos q2] at hinv;rw [hinv]
    ·rw [if_neg (by simp [q]), if_neg (by simp [q2])] at hinv;refine ⟨v.fields.length - (k + 1 + 1), _, oM, Wk.less ?_, k + 1 + 1, oM, rfl, by rw [hp2]; exact hinv, rfl⟩;simp only [go_sem, wrap64s (k + 1) oM, Nat.reduceAdd, Nat.reduceEqDiff, Nat.reduceBEq, Nat.reduceLeDiff, reduceCtorEq, ↓reduceIte]
  ·have hd := dF hlt;obtain rfl : k = v.fields.length := oM;rw [List.drop_length] at hinv;have : R = 0 := by rw [hinv]; cases prevN v.fields v.fields.length <;> rfl
   simp only [go_sem, hd, this, Nat.reduceAdd, Nat.reduceEqDiff, Nat.reduceBEq, Nat.reduceLeDiff, reduceCtorEq, ↓reduceIte]
end Go.Proofs
namespace Go.Proofs
open Go.Shelf
end Go.Proofs
namespace Go.Proofs
open Go Av
open Av.Y
def ir97 : Ic := q (R (ox 1 0<|ow 2 false<|N) [0,2])<|q (R (oL 5 6 1<|oN 3 v6<|oS 6 3 5<|N) [5])<|q (q (R (of 6 1 0<|ol 7 6<|N) [6])<|D (.block 0<|q (R (oi 9 .eql 7 1<|om 8 9<|N) [9])<|I 8 (q (q (R (of 10 1 1<|ol 11 10<|oi 12 .neq 11 0<|om 13 12<|.sc 13 true (of 14 1 1<|ol 15 14<|oi 16 .neq 15 1<|N) (t 16) 17 N) [1,7,8,10,11,12,13])<|D (I 17 (q (R (ow 2 false<|N) [3,17])<|.ret) S) [17])<|R (of 18 3 1<|on (.sto none (t 18) (i 0))<|N) [18]) (q (q (R (oi 20 .eql 7 2<|om 19 20<|N) [8,20])<|I 19 S (q (R (oi 21 .eql 7 6<|om 19 21<|N) [21])<|I 19 S (R (oi 22 .eql 7 7<|om 19 22<|N) [22])))<|I 19 (R (of 23 3 1<|on (.sto none (t 23) (i 0))<|N) [1,7,19,23]) (q (R (oi 25 .eql 7 3<|om 24 25<|N) [19,25])<|I 24 (R (of 26 3 1<|on (.sto none (t 26) (i 0))<|of 27 3 2<|on (.sto none (t 27) (i 0))<|N) [1,7,24,26,27]) (q (R (oi 29 .eql 7 4<|om 28 29<|N) [24,29])<|I 28 (q (q (R (of 30 1 3<|ol 31 30<|cl 32 198 [t 31]<|og 33 32<|N) [1,7,28,30,31,32])<|D (I 33 (q (R (ow 2 false<|N) [3,33])<|.ret) S) [33])<|R (of 34 3 3<|on (.sto none (t 34) (.k (.str [])))<|N) [34]) (q (R (oi 36 .eql 7 5<|om 35 36<|N) [28,36])<|I 35 (R (of 37 3 3<|on (.sto none (t 37) (.k (.str [])))<|N) [1,7,35,37]) (q (R (oi 39 .eql 7 8<|om 38 39<|N) [35,39])<|I 38 (R (of 40 3 4<|on (.sto none (t 40) (.k (.nil 6)))<|N) [1,7,38,40]) (q (R (oi 42 .eql 7 9<|om 41 42<|N) [38,42])<|I 41 (q (q (R (oz 4 1<|N) [7,41])<|D (.block 1<|.loop (q (q (R (om 43 4<|of 44 1 5<|ol 45 44<|oh 46 45<|ot 47 .lss 43 46<|N) [43,44,45,46])<|D (I 47 S (E 1)) [47])<|q (D (.block 2<|q (R (of 50 1 5<|ol 51 50<|om 52 4<|oi 53 .sub 52 1<|oa true 54 7 51 53<|of 55 54 0<|ol 56 55<|of 57 1 5<|ol 58 57<|om 59 4<|oa true 60 7 58 59<|of 61 60 0<|ol 62 61<|ot 63 .sge 56 62<|N) [50,51,52,53,54,55,56,57,58,59,60,61,62])<|D (I 63 (q (R (ow 2 false<|N) [1,3,4,63])<|.ret) S) [63]) [])<|R (om 48 4<|oi 49 .add 48 1<|om 4 49<|N) [48,49])) [1,4,47])<|R (of 64 3 5<|on (.sto none (t 64) (.k (.nil 7)))<|N) [64]) (q (R (oi 66 .eql 7 10<|om 65 66<|N) [7,41,66])<|D (I 65 (q (q (R (of 67 1 4<|ol 68 67<|oh 69 68<|oi 70 .neq 69 1<|N) [1,65,67,68,69])<|D (I 70 (q (R (ow 2 false<|N) [3,70])<|.ret) S) [70])<|R (of 71 3 3<|on (.sto none (t 71) (.k (.str [])))<|of 72 3 4<|on (.sto none (t 72) (.k (.nil 6)))<|N) [71,72]) S) [1,65])))))))) [10,11,4])<|q (R (of 73 3 1<|ol 74 73<|oi 75 .eql 74 0<|om 76 75<|.sc 76 true (of 77 3 2<|ol 78 77<|oi 79 .eql 78 0<|N) (t 79) 80 (om 81 80<|.sc 81 true (of 82 3 3<|ol 83 82<|ob 84 .seq (t 83) (.k (.str []))<|N) (t 84) 85 (om 86 85<|.sc 86 true (of 87 3 4<|ol 88 87<|oh 89 88<|oi 90 .eql 89 0<|N) (t 90) 91 (om 92 91<|.sc 92 true (of 93 3 5<|ol 94 93<|oh 95 94<|oi 96 .eql 95 0<|N) (t 96) 97 (om 2 97<|N))))) [3,73,74,75,76,80,81,85,86,91,92,97])<|.ret
theorem ok97 : FT 97 98 ir97 [.tmp 2] := .o Tryz.func97
def ir102 : Ic := q (R (ox 2 0<|ox 3 1<|oN 4 vG<|ow 5 false<|N) [0,1,5])<|q (R (of 7 2 6<|ol 8 7<|oo 9 (.fnv (.func 204) [] [t 3])<|cl 10 203 [t 8,t 9]<|om 6 10<|N) [3,7,8,9,10])<|q (q (R (om 11 6<|oi 12 .lss 11 0<|N) [11])<|D (I 12 (q (R (oo 13 (.bld vG [])<|oS 11 4 13<|ow 5 false<|N) [2,6,12,13])<|.ret) S) [12])<|q (R (of 14 2 6<|ol 15 14<|om 16 6<|oa true 17 11 15 16<|oL 18 11 17<|oS 11 4 18<|ow 5 true<|N) [2,6,14,15,16,17,18])<|.ret
theorem ok102 : FT 102 19 ir102 [.cell 4 (some 11), .tmp 5] := .o Tryz.func102
def ir203 : Ic := q (R (oz 4 0<|N) [4])<|q (q (R (om 6 0<|oh 7 6<|oz 8 0<|N) [6])<|D (.block 0<|.loop (q (.reg (ot 9 .lss 8 7<|N))<|q (D (I 9 S (E 0)) [9])<|q (D (.block 1<|q (R (om 10 8<|om 5 10<|N) [10])<|q (R (om 11 1<|om 12 0<|om 13 5<|oa true 14 11 12 13<|oL 15 11 14<|.call (some 16) (.dyn (t 11)) [t 15] N) [11,12,13,14,15])<|D (I 16 (q (R (om 17 5<|om 4 17<|N) [0,1,7,8,5,16,17])<|.ret) S) [5,16]) [])<|R (oi 18 .add 8 1<|om 8 18<|N) [18])) [0,1,7,8,9,10,5,11])<|q (.reg (oz 4 (-1)<|N))<|.ret
theorem ok203 : FT 203 19 ir203 [.tmp 4] := .o Tryz.func203
def ir204 : Ic := q (R (ox 2 0<|ow 3 false<|N) [0,3])<|q (R (of 4 2 1<|ol 5 4<|ol 6 1<|ot 7 .seq 5 6<|om 3 7<|N) [2,4,5,6,7])<|.ret
theorem ok204 : FT 204 8 ir204 [.tmp 3] := .o Tryz.func204
def ir198 : Ic := q (R (ow 2 false<|N) [2])<|q (R (om 3 0<|cl 4 173 [t 3]<|om 2 4<|N) [0,3,4])<|.ret
theorem ok198 : FT 198 5 ir198 [.tmp 2] := .o Tryz.func198
def ir217 : Ic := q (R (ox 3 0<|ox 4 1<|oN 6 v6<|N) [0,1])<|q (R (oL 16 6 4<|oN 7 v6<|oS 6 7 16<|N) [16])<|q (D (.block 0<|q (R (of 18 3 0<|ol 19 18<|oi 20 .eql 19 8<|om 21 20<|.sc 21 true (of 22 3 5<|ol 23 22<|oh 24 23<|oi 25 .eql 24 1<|N) (t 25) 26 (om 17 26<|N)) [18,19,20,21,26])<|I 17 (q (R (of 27 7 4<|on (.sto none (t 27) (.k (.nil 6)))<|N) [17,27])<|q (R (of 28 4 4<|ol 29 28<|oh 30 29<|oz 31 0<|N) [4,28])<|D (.block 1<|.loop (q (.reg (ot 32 .lss 31 30<|N))<|q (D (I 32 S (E 1)) [32])<|q (D (.block 2<|q (R (oa true 33 6 29 31<|oL 34 6 33<|oN 9 v6<|oS 6 9 34<|N) [33,34])<|D (.regd [(1,8),(1,9)] (of 35 7 4<|ol 36 35<|om 37 2<|of 38 3 5<|ol 39 38<|oo 40 (.ixa true 7 (t 39) (i 0))<|oL 41 7 40<|oL 42 6 9<|.call (some 43) (.dyn (t 37)) [t 41,t 42] (oo 44 (.bls 6 [t 43])<|oo 45 (.app 6 (t 36) (t 44))<|of 46 7 4<|os 46 45<|N))) [9,35,36,37,38,39,40,41,42,43,44,45,46]) [])<|R (oi 47 .add 31 1<|om 31 47<|N) [47])) [2,3,29,30,31,32,9]) (q (R (of 49 3 0<|ol 50 49<|oi 51 .eql 50 9<|om 48 51<|N) [17,49,50,51])<|I 48 (q (R (of 52 7 5<|on (.sto none (t 52) (.k (.nil 7)))<|N) [48,52])<|q (R (of 53 4 5<|ol 54 53<|oh 55 54<|oz 56 0<|N) [4,53])<|D (.block 3<|.loop (q (.reg (ot 57 .lss 56 55<|N))<|q (D (I 57 S (E 3)) [57])<|q (D (.block 4<|q (R (oa true 58 7 54 56<|oL 59 7 58<|oN 11 v7<|oS 7 11 59<|N) [58,59])<|q (q (R (oL 61 7 3<|of 62 11 0<|ol 63 62<|cl 64 102 [t 61,t 63]<|om 60 64<|oe 65 60 0<|oe 66 60 1<|oN 12 vG<|oS 11 12 65<|om 13 66<|N) [61,62,63,64,60,65,66])<|q (R (om 67 13<|N) [13])<|D (I 67 (R (om 68 2<|of 69 12 3<|oL 70 7 69<|of 71 11 1<|oL 72 6 71<|.call (some 73) (.dyn (t 68)) [t 70,t 72] (of 74 11 1<|oS 6 74 73<|N)) [12,67,68,69,70,71,72,73,74]) S) [12,67])<|R (of 75 7 5<|ol 76 75<|oL 77 7 11<|oo 78 (.bls 7 [t 77])<|oo 79 (.app 7 (t 76) (t 78))<|of 80 7 5<|os 80 79<|N) [11,75,76,77,78,79,80]) [])<|R (oi 81 .add 56 1<|om 56 81<|N) [81])) [2,3,54,55,56,57,11]) (q (R (of 83 3 0<|ol 84 83<|oi 85 .eql 84 10<|om 82 85<|N) [48,83,84,85])<|D (I 82 (q (R (oL 87 7 3<|of 88 4 3<|ol 89 88<|cl 90 102 [t 87,t 89]<|om 86 90<|oe 91 86 0<|oe 92 86 1<|oN 14 vG<|oS 11 14 91<|om 15 92<|N) [3,82,87,88,89,90,86,91,92])<|q (R (om 93 15<|N) [15])<|D (I 93 (R (om 94 2<|of 95 14 3<|oL 96 7 95<|of 97 4 4<|ol 98 97<|oo 99 (.ixa true 6 (t 98) (i 0))<|oL 100 6 99<|.call (some 101) (.dyn (t 94)) [t 96,t 100] (oo 102 (.bls 6 [t 101])<|of 103 7 4<|os 103 102<|N)) [2,4,14,93,94,95,96,97,98,99,100,101,102,103]) S) [2,4,14,93]) S) [2,3,4,82]))) [9,11])<|q (R (oL 104 6 7<|oS 6 6 104<|N) [7,104])<|.ret
theorem ok217 : FT 217 105 ir217 [.cell 6 (some 6)] := .o Tryz.func217
def ir127 : Ic := q (R (ox 2 0<|ox 3 1<|oN 4 v6<|N) [0,1])<|q (q (R (of 10 3 0<|ol 11 10<|of 12 2 0<|ol 13 12<|ot 14 .neq 11 13<|om 15 14<|.sc 15 false (oL 16 6 3<|cl 17 97 [t 16]<|og 18 17<|N) (t 18) 19 N) [10,11,12,13,14,15])<|D (I 19 (q (R (oL 20 6 3<|oS 6 4 20<|N) [2,3,19,20])<|.ret) S) [19])<|q (R (oL 21 7 2<|oL 22 6 3<|cl 23 217 [t 21,t 22,.k (.fn (.func 127) [] [])]<|oN 5 v6<|oS 6 5 23<|N) [3,21,22,23])<|q (q (R (of 24 2 0<|ol 25 24<|oi 26 .neq 25 9<|N) [24,25])<|D (I 26 (q (R (oL 27 6 5<|oS 6 4 27<|N) [2,5,26,27])<|.ret) S) [26])<|q (q (R (of 28 2 6<|ol 29 28<|oh 30 29<|oz 31 0<|N) [2,28])<|D (.block 0<|.loop (q (.reg (ot 32 .lss 31 30<|N))<|q (D (I 32 S (E 0)) [32])<|q (D (.block 1<|q (R (oa true 33 11 29 31<|oL 34 11 33<|oN 7 vG<|oS 11 7 34<|N) [33,34])<|q (q (R (of 35 7 2<|ol 36 35<|oi 37 .neq 36 3<|om 38 37<|.sc 38 false (of 39 7 10<|ol 40 39<|oh 41 40<|oi 42 .neq 41 1<|N) (t 42) 43 N) [35,36,37,38])<|D (I 43 (E 1) S) [43])<|q (R (of 45 5 5<|ol 46 45<|of 47 7 1<|ol 48 47<|cl 49 218 [t 46,t 48,.k (.fn (.func 219) [] [])]<|om 44 49<|oe 50 44 0<|oe 51 44 1<|om 8 50<|om 9 51<|N) [45,46,47,48,49,44,50,51])<|q (R (om 52 9<|og 53 52<|N) [9,52])<|D (I 53 (D (.regd [(1,10)] (of 54 5 5<|ol 55 54<|om 56 8<|of 57 7 1<|ol 58 57<|of 59 7 10<|ol 60 59<|oo 61 (.ixa true 6 (t 60) (i 0))<|oL 62 6 61<|oo 63 (.bld v7 [(0,1,t 58),(1,6,t 62)])<|oo 64 (.bls 7 [t 63])<|cl 65 162 [t 55,t 56,t 64]<|of 66 5 5<|os 66 65<|N)) [7,8,53,54,55,56,57,58,59,60,61,62,63,64,65,66]) S) [7,8,53]) [7,43,8,9])<|R (oi 67 .add 31 1<|om 31 67<|N) [67])) [29,30,31,32,7,8,9])<|q (R (oL 68 6 5<|oS 6 4 68<|N) [5,68])<|.ret
theorem ok127 : FT 127 69 ir127 [.cell 4 (some 6)] := .o Tryz.func127
def ir218 : Ic := q (R (oz 6 0<|ow 7 false<|N) [6,7])<|q (R (om 12 0<|oh 13 12<|om 8 13<|N) [12,13])<|q (R (om 14 8<|oz 9 0<|om 10 14<|N) [14])<|q (D (.block 0<|.loop (q (q (R (om 15 9<|om 16 10<|ot 17 .lss 15 16<|N) [15,16])<|D (I 17 S (E 0)) [17])<|D (.block 1<|q (R (om 18 9<|om 19 10<|ot 20 .add 18 19<|oo 21 (.cvi .u64 (t 20))<|oo 22 (.bit .shr (t 21) (.k (.int .u64 1)))<|oo 23 (.cvi .i64 (t 22))<|om 11 23<|N) [18,19,20,21,22,23])<|q (R (om 24 2<|om 25 0<|om 26 11<|oa true 27 7 25 26<|oL 28 7 27<|om 29 1<|.call (some 30) (.dyn (t 24)) [t 28,t 29] (oi 31 .lss 30 0<|N)) [24,25,26,27,28,29,30])<|I 31 (R (om 32 11<|oi 33 .add 32 1<|om 9 33<|N) [11,31,32,33]) (R (om 34 11<|om 10 34<|N) [11,31,34])) [])) [10,17,11])<|q (R (om 35 9<|om 36 9<|om 37 8<|ot 38 .lss 36 37<|om 39 38<|.sc 39 true (om 40 2<|om 41 0<|om 42 9<|oa true 43 7 41 42<|oL 44 7 43<|om 45 1<|.call (some 46) (.dyn (t 40)) [t 44,t 45] (oi 47 .eql 46 0<|N)) (t 47) 48 (om 6 35<|om 7 48<|N)) [0,1,2,8,9,35,36,37,38,39,48])<|.ret
theorem ok218 : FT 218 49 ir218 [.tmp 6, .tmp 7] := .o Tryz.func218
def ir219 : Ic := q (R (ox 2 0<|oz 4 0<|N) [0,4])<|q (R (of 5 2 0<|ol 6 5<|om 7 1<|cl 8 107 [t 6,t 7]<|om 4 8<|N) [1,2,5,6,7,8])<|.ret
theorem ok219 : FT 219 9 ir219 [.tmp 4] := .o Tryz.func219
def ir52 : Ic := q (R (ox 2 0<|ox 3 1<|oN 4 v6<|oz 5 0<|N) [0,1,5])<|q (R (oL 7 7 2<|oL 8 6 3<|cl 9 127 [t 7,t 8]<|oN 6 v6<|oS 6 6 9<|N) [3,7,8,9])<|q (q (R (oL 10 7 2<|oL 11 6 6<|cl 12 8 [t 10,t 11]<|og 13 12<|N) [2,10,11,12])<|D (I 13 (q (R (oo 14 (.bld v6 [])<|oS 6 4 14<|oz 5 18<|N) [6,13,14])<|.ret) S) [13])<|q (R (oL 15 6 6<|cl 16 54 [t 15]<|oS 6 4 16<|oz 5 0<|N) [6,15,16])<|.ret
theorem ok52 : FT 52 17 ir52 [.cell 4 (some 6), .tmp 5] := .o Tryz.func52
def ir8 : Ic := q (R (ox 2 0<|ox 3 1<|ow 4 false<|N) [0,1,4])<|q (.reg (oN 5 [.bool false]<|on (.sto none (t 5) (B true))<|N))<|q (R (oo 7 (.fnv (.func 35) [] [t 5])<|oo 8 (.bld [.nilFn,.bool false] [(0,1,t 7)])<|oN 6 [.nilFn,.bool false]<|oS 2 6 8<|N) [7,8])<|q (R (oL 9 7 2<|oL 10 6 3<|cl 11 36 [t 6,t 9,t 10,.k (.str [])]<|N) [2,3,6,9,10,11])<|q (R (ol 12 5<|om 4 12<|N) [5,12])<|.ret
theorem ok8 : FT 8 13 ir8 [.tmp 4] := .o Tryz.func8
def ir35 : Ic := q (R (ox 2 0<|ow 3 false<|N) [0,2,3])<|q (.reg (on (.sto none (t 1) (B false))<|N))<|q (.reg (ow 3 false<|N))<|.ret
theorem ok35 : FT 35 4 ir35 [.tmp 3] := .o Tryz.func35
def ir36 : Ic := q (R (ox 5 1<|ox 6 2<|N) [1,2])<|q (D (.block 0<|q (R (om 14 0<|oc 15 14<|of 16 15 1<|ol 17 16<|om 13 17<|N) [14,15,16,17])<|D (I 13 .ret (q (R (of 19 5 0<|ol 20 19<|oi 21 .lss 20 1<|om 22 21<|.sc 22 false (of 23 5 0<|ol 24 23<|oi 25 .gtr 24 10<|N) (t 25) 26 (om 27 26<|.sc 27 false (of 28 6 0<|ol 29 28<|of 30 5 0<|ol 31 30<|ot 32 .neq 29 31<|N) (t 32) 33 (om 18 33<|N))) [13,19,20,21,22,26,27,33])<|I 18 (q (R (om 34 0<|om 35 3<|cl 36 96 [t 34,t 35,i 1]<|N) [0,3,5,6,18,34,35,36])<|.ret) (q (R (oL 38 6 6<|cl 39 97 [t 38]<|og 40 39<|om 37 40<|N) [18,38,39,40])<|D (I 37 (q (R (om 41 0<|om 42 3<|cl 43 96 [t 41,t 42,i 8]<|N) [0,3,5,6,37,41,42,43])<|.ret) S) [37]))) []) [])<|q (R (of 44 5 0<|ol 45 44<|N) [44])<|D (.block 1<|q (q (R (oi 47 .eql 45 2<|om 46 47<|N) [47])<|I 46 S (q (R (oi 48 .eql 45 6<|om 46 48<|N) [48])<|I 46 S (R (oi 49 .eql 45 7<|om 46 49<|N) [49])))<|I 46 (R (om 50 0<|oL 51 7 5<|om 52 3<|of 53 6 1<|ol 54 53<|cl 55 98 [t 50,t 51,t 52,t 54]<|N) [0,3,5,6,45,46,50,51,52,53,54,55]) (q (R (oi 57 .eql 45 3<|om 56 57<|N) [46,57])<|I 56 (q (R (of 58 6 2<|ol 59 58<|of 60 5 3<|ol 61 60<|ot 62 .neq 59 61<|N) [45,56,58,59,60,61])<|I 62 (R (om 63 0<|om 64 3<|cl 65 96 [t 63,t 64,i 3]<|N) [0,3,5,6,62,63,64,65]) (R (om 66 0<|oL 67 7 5<|om 68 3<|of 69 6 1<|ol 70 69<|cl 71 98 [t 66,t 67,t 68,t 70]<|N) [0,3,5,6,62,66,67,68,69,70,71])) (q (q (R (oi 73 .eql 45 4<|om 72 73<|N) [56,73])<|I 72 S (R (oi 74 .eql 45 5<|om 72 74<|N) [74]))<|I 72 (q (R (of 75 5 0<|ol 76 75<|oi 77 .eql 76 4<|om 78 77<|.sc 78 true (of 79 5 4<|ol 80 79<|oh 81 80<|oi 82 .gtr 81 0<|N) (t 82) 83 N) [45,72,75,76,77,78])<|I 83 (q (R (of 84 5 4<|ol 85 84<|of 86 6 3<|ol 87 86<|cl 88 99 [t 85,t 87]<|og 89 88<|N) [5,6,83,84,85,86,87,88])<|D (I 89 (R (om 90 0<|om 91 3<|cl 92 96 [t 90,t 91,i 4]<|N) [0,3,89,90,91,92]) S) [0,3,89]) (R (om 93 0<|oL 94 7 5<|om 95 3<|of 96 6 3<|ol 97 96<|oj 98 97<|cl 99 98 [t 93,t 94,t 95,t 98]<|N) [0,3,5,6,83,93,94,95,96,97,98,99])) (q (R (oi 101 .eql 45 8<|om 100 101<|N) [72,101])<|I 100 (q (R (om 102 0<|oL 103 7 5<|om 104 3<|of 105 6 4<|ol 106 105<|oh 107 106<|cl 108 98 [t 102,t 103,t 104,t 107]<|N) [45,100,102,103,104,105,106,107,108])<|q (R (of 109 6 4<|ol 110 109<|oh 111 110<|oz 112 0<|N) [6,109])<|D (.block 2<|.loop (q (.reg (ot 113 .lss 112 111<|N))<|q (D (I 113 S (E 2)) [113])<|q (D (.block 3<|q (R (om 114 112<|oa true 115 6 110 112<|oL 116 6 115<|oN 9 v6<|om 8 114<|oS 6 9 116<|N) [114,115,116])<|q (R (om 117 3<|ob 118 .cat (t 117) (.k (.str [91]))<|om 119 8<|cl 120 100 [t 119]<|ot 121 .cat 118 120<|ob 122 .cat (t 121) (.k (.str [93]))<|om 10 122<|N) [8,117,118,119,120,121,122])<|q (R (of 123 5 5<|ol 124 123<|oh 125 124<|oi 126 .eql 125 1<|N) [123,124,125])<|I 126 (R (om 127 0<|of 128 5 5<|ol 129 128<|oo 130 (.ixa true 7 (t 129) (i 0))<|oL 131 7 130<|oL 132 6 9<|om 133 10<|cl 134 36 [t 127,t 131,t 132,t 133]<|N) [9,10,126,127,128,129,130,131,132,133,134]) (R (om 135 0<|om 136 10<|cl 137 96 [t 135,t 136,i 1]<|N) [9,10,126,135,136,137])) [])<|R (oi 138 .add 112 1<|om 112 138<|N) [138])) [0,3,5,110,111,112,113,9,8,10]) (q (R (oi 140 .eql 45 9<|om 139 140<|N) [100,140])<|I 139 (R (om 141 0<|oL 142 7 5<|oL 143 6 6<|om 144 3<|cl 145 101 [t 141,t 142,t 143,t 144]<|N) [0,3,5,6,45,139,141,142,143,144,145]) (q (R (oi 147 .eql 45 10<|om 146 147<|N) [45,139,147])<|D (I 146 (q (R (oL 149 7 5<|of 150 6 3<|ol 151 150<|cl 152 102 [t 149,t 151]<|om 148 152<|oe 153 148 0<|oe 154 148 1<|oN 11 vG<|oS 11 11 153<|om 12 154<|N) [5,146,149,150,151,152,148,153,154])<|q (R (om 155 12<|N) [12])<|I 155 (R (om 156 0<|of 157 11 3<|oL 158 7 157<|of 159 6 4<|ol 160 159<|oo 161 (.ixa true 6 (t 160) (i 0))<|oL 162 6 161<|om 163 3<|ob 164 .cat (t 163) (.k (.str [63]))<|of 165 6 3<|ol 166 165<|ot 167 .cat 164 166<|cl 168 36 [t 156,t 158,t 162,t 167]<|N) [0,3,6,11,155,156,157,158,159,160,161,162,163,164,165,166,167,168]) (R (om 169 0<|om 170 3<|cl 171 96 [t 169,t 170,i 7]<|N) [0,3,6,11,155,169,170,171])) S) [0,3,5,6,146])))))) [9,8,10,11]
theorem ok36 : FT 36 172 ir36 [] := .o Tryz.func36
def ir96 : Ic := q (R (om 6 0<|oc 7 6<|of 8 7 1<|ol 9 8<|og 10 9<|om 11 10<|.sc 11 true (om 12 0<|oc 13 12<|of 14 13 0<|ol 15 14<|om 16 1<|om 17 2<|oo 18 (.bld [.str [],.int .i64 0] [(0,1,t 16),(1,1,t 17)])<|.call (some 19) (.dyn (t 15)) [t 18] (og 20 19<|N)) (t 20) 21 N) [1,2,6,7,8,9,10,11])<|D (I 21 (R (om 22 0<|oc 23 22<|of 24 23 1<|on (.sto none (t 24) (B true))<|N) [0,21,22,23,24]) S) [0,21]
theorem ok96 : FT 96 25 ir96 [] := .o Tryz.func96
def ir98 : Ic := q (R (ox 5 1<|N) [1])<|q (R (om 8 3<|of 9 5 1<|ol 10 9<|ot 11 .lss 8 10<|om 12 11<|.sc 12 false (om 13 3<|of 14 5 2<|ol 15 14<|ot 16 .gtr 13 15<|N) (t 16) 17 N) [3,5,8,9,10,11,12])<|D (I 17 (R (om 18 0<|om 19 2<|cl 20 96 [t 18,t 19,i 2]<|N) [0,2,17,18,19,20]) S) [0,2,17]
theorem ok98 : FT 98 21 ir98 [] := .o Tryz.func98
def ir99 : Ic := q (R (ow 4 false<|N) [4])<|q (R (om 5 0<|om 6 1<|cl 7 199 [t 5,t 6]<|oi 8 .geq 7 0<|om 4 8<|N) [0,1,5,6,7,8])<|.ret
theorem ok99 : FT 99 9 ir99 [.tmp 4] := .o Tryz.func99
def ir199 : Ic := q (R (oz 4 0<|N) [4])<|q (q (R (om 6 0<|oh 7 6<|oz 8 0<|N) [6])<|D (.block 0<|.loop (q (.reg (ot 9 .lss 8 7<|N))<|q (D (I 9 S (E 0)) [9])<|q (D (.block 1<|q (R (om 10 8<|om 5 10<|N) [10])<|q (R (om 11 1<|om 12 0<|om 13 5<|oa false 14 1 12 13<|ol 15 14<|ot 16 .seq 11 15<|N) [11,12,13,14,15])<|D (I 16 (q (R (om 17 5<|om 4 17<|N) [0,1,7,8,5,16,17])<|.ret) S) [5,16]) [])<|R (oi 18 .add 8 1<|om 8 18<|N) [18])) [0,1,7,8,9,10,5,11])<|q (.reg (oz 4 (-1)<|N))<|.ret
theorem ok199 : FT 199 19 ir199 [.tmp 4] := .o Tryz.func199
def ir101 : Ic := q (R (ox 5 1<|ox 6 2<|N) [1,2])<|q (q (R (of 16 5 6<|ol 17 16<|oh 18 17<|oz 19 0<|N) [16])<|D (.block 0<|.loop (q (.reg (ot 20 .lss 19 18<|N))<|q (D (I 20 S (E 0)) [20])<|q (D (.block 1<|q (R (oa true 21 11 17 19<|oL 22 11 21<|oN 9 vG<|oS 11 9 22<|N) [21,22])<|q (R (oL 24 6 6<|of 25 9 1<|ol 26 25<|cl 27 201 [t 24,t 26]<|om 23 27<|oe 28 23 0<|oe 29 23 1<|oN 10 v6<|oS 6 10 28<|om 11 29<|N) [24,25,26,27,23,28,29])<|q (R (om 30 11<|N) [11])<|I 30 (D (.regd [(2,7),(3,7)] (om 31 0<|of 32 9 3<|oL 33 7 32<|oL 34 6 10<|om 35 3<|of 36 9 1<|ol 37 36<|cl 38 202 [t 35,t 37]<|cl 39 36 [t 31,t 33,t 34,t 38]<|N)) [9,10,30,31,32,33,34,35,36,37,38,39]) (q (R (of 40 9 2<|ol 41 40<|oi 42 .neq 41 2<|N) [10,30,40,41])<|D (I 42 (R (om 43 0<|om 44 3<|of 45 9 1<|ol 46 45<|cl 47 202 [t 44,t 46]<|cl 48 96 [t 43,t 47,i 5]<|N) [9,42,43,44,45,46,47,48]) S) [9,42])) [])<|R (oi 49 .add 19 1<|om 19 49<|N) [49])) [17,18,19,20,9,10,11])<|q (R (of 50 6 5<|ol 51 50<|oh 52 51<|oz 53 0<|N) [6,50])<|D (.block 2<|.loop (q (.reg (ot 54 .lss 53 52<|N))<|q (D (I 54 S (E 2)) [54])<|q (D (.block 3<|q (R (oa true 55 7 51 53<|oL 56 7 55<|oN 13 v7<|oS 7 13 56<|N) [55,56])<|q (R (oL 58 7 5<|of 59 13 0<|ol 60 59<|cl 61 102 [t 58,t 60]<|om 57 61<|oe 62 57 0<|oe 63 57 1<|oN 14 vG<|oS 11 14 62<|om 15 63<|N) [58,59,60,61,57,62,63,14])<|q (R (om 64 15<|og 65 64<|N) [15,64])<|D (I 65 (R (om 66 0<|om 67 3<|of 68 13 0<|ol 69 68<|cl 70 202 [t 67,t 69]<|cl 71 96 [t 66,t 70,i 6]<|N) [13,65,66,67,68,69,70,71]) S) [13,65]) [])<|R (oi 72 .add 53 1<|om 53 72<|N) [72])) [0,3,5,51,52,53,54]
theorem ok101 : FT 101 73 ir101 [] := .o Tryz.func101
def ir202 : Ic := q (R (ok 4 (.k (.str []))<|N) [4])<|q (q (R (om 5 0<|ob 6 .seq (t 5) (.k (.str []))<|N) [5])<|D (I 6 (q (R (om 7 1<|om 4 7<|N) [0,1,6,7])<|.ret) S) [6])<|q (R (om 8 0<|ob 9 .cat (t 8) (.k (.str [46]))<|om 10 1<|ot 11 .cat 9 10<|om 4 11<|N) [0,1,8,9,10,11])<|.ret
theorem ok202 : FT 202 12 ir202 [.tmp 4] := .o Tryz.func202
def ir162 : Ic := q (R (ok 6 (.k (.nil 7))<|N) [6])<|q (R (om 10 0<|om 11 1<|oo 12 (.slc 7 (t 10) (some (t 11)) none none)<|N) [10,11,12])<|q (R (om 13 2<|oh 14 13<|om 7 14<|N) [13,14])<|q (q (R (om 15 7<|oi 16 .eql 15 0<|N) [15])<|D (I 16 (q (R (om 17 0<|om 6 17<|N) [0,1,2,7,16,17])<|.ret) S) [16])<|q (R (om 18 0<|oh 19 18<|om 8 19<|N) [18,19])<|q (q (R (om 20 1<|om 21 8<|ot 22 .eql 20 21<|N) [20,21])<|D (I 22 (q (R (om 23 0<|om 24 2<|oo 25 (.app 7 (t 23) (t 24))<|om 6 25<|N) [0,1,2,7,8,22,23,24,25])<|.ret) S) [22])<|q (q (R (om 26 8<|om 27 7<|ot 28 .add 26 27<|om 29 0<|oo 30 .bad<|ot 31 .gtr 28 30<|N) [26,27,28,29,30])<|D (I 31 (q (R (om 32 0<|om 33 1<|oo 34 (.slc 7 (t 32) none (some (t 33)) none)<|om 35 8<|om 36 7<|ot 37 .add 35 36<|om 38 1<|ot 39 .sub 37 38<|oo 40 .bad<|om 9 40<|N) [8,31,32,33,34,35,36,37,38,39,40])<|q (R (om 41 9<|om 42 1<|oo 43 (.slc 7 (t 41) (some (t 42)) none none)<|om 44 2<|oo 45 .bad<|N) [2,41,42,43,44,45])<|q (R (om 46 9<|om 47 1<|om 48 7<|ot 49 .add 47 48<|oo 50 (.slc 7 (t 46) (some (t 49)) none none)<|om 51 0<|om 52 1<|oo 53 (.slc 7 (t 51) (some (t 52)) none none)<|oo 54 .bad<|N) [0,1,7,46,47,48,49,50,51,52,53,54])<|q (R (om 55 9<|om 6 55<|N) [9,55])<|.ret) S) [31])<|q (R (om 56 0<|om 57 8<|om 58 7<|ot 59 .add 57 58<|oo 60 (.slc 7 (t 56) none (some (t 59)) none)<|om 0 60<|N) [56,57,58,59,60])<|q (q (R (om 61 2<|om 62 0<|om 63 1<|om 64 7<|ot 65 .add 63 64<|oo 66 (.slc 7 (t 62) (some (t 65)) none none)<|cl 67 237 [t 61,t 66]<|og 68 67<|N) [61,62,63,64,65,66,67])<|D (I 68 (q (R (om 69 0<|om 70 1<|om 71 7<|ot 72 .add 70 71<|oo 73 (.slc 7 (t 69) (some (t 72)) none none)<|om 74 0<|om 75 1<|oo 76 (.slc 7 (t 74) (some (t 75)) none none)<|oo 77 .bad<|N) [7,8,68,69,70,71,72,73,74,75,76,77])<|q (R (om 78 0<|om 79 1<|oo 80 (.slc 7 (t 78) (some (t 79)) none none)<|om 81 2<|oo 82 .bad<|N) [1,2,78,79,80,81,82])<|q (R (om 83 0<|om 6 83<|N) [0,83])<|.ret) S) [68])<|q (R (om 84 0<|om 85 8<|oo 86 (.slc 7 (t 84) (some (t 85)) none none)<|om 87 2<|oo 88 .bad<|N) [2,8,84,85,86,87,88])<|q (R (om 89 0<|om 90 1<|oo 91 (.slc 7 (t 89) (some (t 90)) none none)<|om 92 7<|cl 93 238 [t 91,t 92]<|N) [1,7,89,90,91,92,93])<|q (R (om 94 0<|om 6 94<|N) [0,94])<|.ret
theorem ok162 : FT 162 95 ir162 [.tmp 6] := .o Tryz.func162
end Go.Proofs
namespace Go.Proofs
open Go Av Go.RowKit
theorem walk198 (s : Str) : PT 198 [.str s] (.d (.bool (validS s))) := by
 refine ok198.pc ?_;simp only [go_sem, ir198, simprocAttr];refine wc (call173 s) trivial
end Go.Proofs
namespace Go.Proofs
open Go Av
def ruleE (v : Val) : Int :=
 if v.kind = 1 then btw v.int 0 1 else if v.kind = 2 then btw v.int (-999999999999999) 999999999999999
 else if v.kind = 3 then fstE [btw v.int (-999999999999999) 999999999999999, btw v.scale 0 12] else if v.kind = 4 then textE v else if v.kind = 5 then szE v.text.length 1024 5
 else if v.kind = 6 then btw v.int (-719162) 2932896 else if v.kind = 7 then btw v.int (-62135596800000) 253402300799999 else if v.kind = 8 then szE v.list.length 256 9
 else if v.kind = 9 then recV v else varE v
def chkE (n level : Int) (v : Val) : Int :=
 if decide (n > 4096) then 9 else if decide (level > 8) then 23 else if nullV v then 19 else if decide (v.kind < 1) || decide (v.kind > 10) then 11 else if !usesV v then 3 else ruleE v
def rulesD : List Dat := [.nilFn, .fn (.func 166) [] [], .fn (.func 168) [] [], .fn (.func 169) [] [], .fn (.func 171) [] [], .fn (.func 174) [] [], .fn (.func 175) [] [], .fn (.func 176) [] [], .fn (.func 177) [] [], .fn (.func 178) [] [], .fn (.func 179) [] []]
theorem walk86 : PT 86 [] (.d (.agg rulesD)) := by
 refine ok86.pc ?_;simp only [go_sem, ir86, simprocAttr];rfl
theorem walk87 (v : Val) : PT 87 [encV v] (.d (.fn (.func 180) [] [.ptr (encV v).cells])) := by
 refine ok87.pc ?_;rw [encV_eq];simp only [go_sem, ir87, simprocAttr];simp only [go_sem, decide_eq_true_eq, reduceCtorEq, ↓reduceIte]
noncomputable def lpL (tm : List (Nat × Av)) (s : LoopState) (j : Option Code) : Lp := ⟨tm, 46, #[11, 12], subC (codeOf Tryz.f30) [1, 1, 1, 0, 1, 0, 0], subC (codeOf Tryz.f30) [1, 1, 1, 0, 1, 0, 1], s, j⟩
def tmL (c : Dat) : List (Nat × Av) := [(2, .ref 1002 0), (3, .ref 1003 0), (4, .ref 1004 0), (10, .d c)]
noncomputable abbrev TL (c : Dat) (e n : Int) : List (Nat × Av.Obj) := [(1000, .lp (lpL (tmL c) .ready none)), (1002, .box [.d (.int .i64 e)]), (1003, .box (rulesD.map .d)), (1004, .box [.d (.int .i64 n)])]
noncomputable def afterL (c : Dat) (x : Int) : Av.Obj := if x = 0 then .lp (lpL (tmL c) .ready none) else .lp (lpL (tmL c) .done (some .ret))
theorem round30 (c : Dat) (e n level : Int) (v : Val) (hn : 0 ≤ n ∧ n ≤ 4096) :
  RCon Tryz.prog 1000 [.d (.int .i64 level), .d (encV v)] (TL c e n) (.d (.bool (chkE (n + 1) level v == 0)))
   [(1000, afterL c (chkE (n + 1) level v)), (1002, .box [.d (.int .i64 (if chkE (n + 1) level v = 0 then e else chkE (n + 1) level v))]), (1004, .box [.d (.int .i64 (n + 1))])] := by
 refine RCon.of_code (asg := asg30) (body := body30) rfl rfl kR kR rfl (show ∀ p ∈ [11, 12], p < 46 by decide) ?_ ?_
 ·refine closed_puts ?_;unfold afterL;split <;> simp [TL, puts, put, closedH, objIn, idsInL, idsIn, idsInT, tmL, lpL, rulesD, Av.get]
 ·rw [encV_eq];generalize hx : chkE (n + 1) level v = x;generalize hD : (fun i => (get (TL c e n) i).isSome = true) = D;generalize hK : RoundEnds 1000 (TL c e n) D (.d (.bool (x == 0))) _ = K;have hw : IntKind.i64.wrap (n + 1) = n + 1 := wrap64 oM oM;have leaf : x ≠ 0 → ∀ cs, K .ret ⟨[], [(1000, .lp (lpL (tmL c) .busy none)), (1002, .box [.d (.int .i64 x)]), (1003, .box (rulesD.map .d)), (1004, .box [.d (.int .i64 (n + 1))]), (6, .box cs)]⟩ := by
   intro h0 cs;have hb : (x == 0) = false := by simp [h0]
   rw [← hK, ← hD, hb];refine ⟨_, _, rfl, rfl, ⟨[], [(1000, .lp (lpL (tmL c) .done (some .ret))), (1002, .box [.d (.int .i64 x)]), (1003, .box (rulesD.map .d)), (1004, .box [.d (.int .i64 (n + 1))])]⟩, Wk.less ?_, ?_⟩
   ·simp [put, tmL, lpL, rulesD, go_sem]
   ·intro i o h;rw [← h, ← get_puts];simp [puts, put, afterL, h0]
  have leaf0 : x = 0 → ∀ cs, K .normal ⟨[], [(1000, .lp (lpL (tmL c) .busy none)), (1002, .box [.d (.int .i64 e)]), (1003, .box (rulesD.map .d)), (1004, .box [.d (.int .i64 (n + 1))]), (6, .box cs)]⟩ := by
   intro h0 cs;have hb : (x == 0) = true := by simp [h0]
   rw [← hK, ← hD, hb];refine ⟨_, _, rfl, rfl, ⟨[], [(1000, .lp (lpL (tmL c) .ready none)), (1002, .box [.d (.int .i64 e)]), (1003, .box (rulesD.map .d)), (1004, .box [.d (.int .i64 (n + 1))])]⟩, Wk.less ?_, ?_⟩
   ·simp [put, tmL, lpL, rulesD, go_sem]
   ·intro i o h;rw [← h, ← get_puts];simp [puts, put, afterL, h0]
  clear hK hD;simp only [TL, lpL, tmL, asg30, body30, hw, go_sem, simprocAttr];refine ⟨_, rfl, rfl, ?_⟩;have c21 := (walk88 v).call trivial;rw [encV_eq] at c21;refine ⟨fun h1 => ?_, fun h1 => ⟨fun h2 => ?_, fun h2 => wn c21 ?_⟩⟩
  ·obtain rfl : x = 9 := by rw [← hx, chkE, if_pos h1]
   exact leaf dC _
  ·obtain rfl : x = 23 := by rw [← hx, chkE, if_neg (by simp [h1]), if_pos h2]
   exact leaf dC _
  rw [chkE, if_neg (by simp [h1]), if_neg (by simp [h2])] at hx;refine zz ?_;apply ik <;> intro h3
  ·obtain rfl : x = 19 := by rw [← hx, if_pos h3]
   exact leaf dC _
  rw [if_neg (by simp [h3])] at hx;refine sq (decide (v.kind > 10)) ?_ ?_
  ·exact zz trivial
  have c96 := (walk89 v).call trivial;rw [encV_eq] at c96;refine zz ?_;refine ⟨fun h4 => ?_, fun h4 => wn c96 ?_⟩
  ·obtain rfl : x = 11 := by rw [← hx, if_pos h4]
   exact leaf dC _
  rw [if_neg (by simp only [h4]; decide)] at hx;refine zz ?_;apply ik <;> intro h5
  ·obtain rfl : x = 3 := by rw [← hx, if_pos h5]
   exact leaf dC _
  rw [if_neg (by simp [h5])] at hx;obtain ⟨k1, k2⟩ : 1 ≤ v.kind ∧ v.kind ≤ 10 := by simp at h4; omega
  have hk : v.kind = 1 ∨ v.kind = 2 ∨ v.kind = 3 ∨ v.kind = 4 ∨ v.kind = 5 ∨ v.kind = 6 ∨ v.kind = 7 ∨ v.kind = 8 ∨ v.kind = 9 ∨ v.kind = 10 := oM;rcases hk with hk | hk | hk | hk | hk | hk | hk | hk | hk | hk
  ·have cr := (walk166 v).call trivial;have hr : ruleE v = btw v.int 0 1 := by simp [ruleE, hk]
   rw [encV_eq, hk, ← hr, hx] at cr;refine zz10 ?_;refine ⟨⟨dC, dC⟩, wn cr ?_⟩;refine zz ?_;exact ⟨fun h6 => leaf (sX h6) _, fun h6 => leaf0 (sX h6) _⟩
  ·have cr := (walk168 v).call trivial;have hr : ruleE v = btw v.int (-999999999999999) 999999999999999 := by simp [ruleE, hk]
   rw [encV_eq, hk, ← hr, hx] at cr;refine zz10 ?_;refine ⟨⟨dC, dC⟩, wn cr ?_⟩;refine zz ?_;exact ⟨fun h6 => leaf (sX h6) _, fun h6 => leaf0 (sX h6) _⟩
  ·have cr := (walk169 v).call trivial;have hr : ruleE v = fstE [btw v.int (-999999999999999) 999999999999999, btw v.scale 0 12] := by simp [ruleE, hk]
   rw [encV_eq, hk, ← hr, hx] at cr;refine zz10 ?_;refine ⟨⟨dC, dC⟩, wn cr ?_⟩;refine zz ?_;exact ⟨fun h6 => leaf (sX h6) _, fun h6 => leaf0 (sX h6) _⟩
  ·have cr := (walk171 v).call trivial;have hr : ruleE v = textE v := by simp [ruleE, hk]
   rw [encV_eq, hk, ← hr, hx] at cr;refine zz10 ?_;refine ⟨⟨dC, dC⟩, wn cr ?_⟩;refine zz ?_;exact ⟨fun h6 => leaf (sX h6) _, fun h6 => leaf0 (sX h6) _⟩
  ·have cr := (walk174 v).call trivial;have hr : ruleE v = szE v.text.length 1024 5 := by simp [ruleE, hk]
   rw [encV_eq, hk, ← hr, hx] at cr;refine zz10 ?_;refine ⟨⟨dC, dC⟩, wn cr ?_⟩;refine zz ?_;exact ⟨fun h6 => leaf (sX h6) _, fun h6 => leaf0 (sX h6) _⟩
  ·have cr := (walk175 v).call trivial;have hr : ruleE v = btw v.int (-719162) 2932896 := by simp [ruleE, hk]
   rw [encV_eq, hk, ← hr, hx] at cr;refine zz10 ?_;refine ⟨⟨dC, dC⟩, wn cr ?_⟩;refine zz ?_;exact ⟨fun h6 => leaf (sX h6) _, fun h6 => leaf0 (sX h6) _⟩
  ·have cr := (walk176 v).call trivial;have hr : ruleE v = btw v.int (-62135596800000) 253402300799999 := by simp [ruleE, hk]
   rw [encV_eq, hk, ← hr, hx] at cr;refine zz10 ?_;refine ⟨⟨dC, dC⟩, wn cr ?_⟩;refine zz ?_;exact ⟨fun h6 => leaf (sX h6) _, fun h6 => leaf0 (sX h6) _⟩
  ·have cr := (walk177 v).call trivial;have hr : ruleE v = szE v.list.length 256 9 := by simp [ruleE, hk]
   rw [encV_eq, hk, ← hr, hx] at cr;refine zz10 ?_;refine ⟨⟨dC, dC⟩, wn cr ?_⟩;refine zz ?_;exact ⟨fun h6 => leaf (sX h6) _, fun h6 => leaf0 (sX h6) _⟩
  ·have cr := (walk178 v).call trivial;have hr : ruleE v = recV v := by simp [ruleE, hk]
   rw [encV_eq, hk, ← hr, hx] at cr;refine zz10 ?_;refine ⟨⟨dC, dC⟩, wn cr ?_⟩;refine zz ?_;exact ⟨fun h6 => leaf (sX h6) _, fun h6 => leaf0 (sX h6) _⟩
  ·have cr := (walk179 v).call trivial;have hr : ruleE v = varE v := by simp [ruleE, hk]
   rw [encV_eq, hk, ← hr, hx] at cr;refine zz10 ?_;refine ⟨⟨dC, dC⟩, wn cr ?_⟩;refine zz ?_;exact ⟨fun h6 => leaf (sX h6) _, fun h6 => leaf0 (sX h6) _⟩
end Go.Proofs
namespace Go.Proofs
open Go Av
variable {n : Int}
noncomputable abbrev upsL (c : Dat) (e x n : Int) : List (Nat × Av.Obj) := [(1000, afterL c x), (1002, .box [.d (.int .i64 (if x = 0 then e else x))]), (1004, .box [.d (.int .i64 n)])]
theorem closedU (c : Dat) (e n x m : Int) : closed (hputs (get (TL c e n)) (upsL c e x m)) := by
 refine closed_puts ?_;simp only [upsL, TL];unfold afterL;split <;> simp [TL, puts, put, closedH, objIn, idsInL, idsIn, idsInT, tmL, lpL, rulesD, Av.get]
theorem closedL (c : Dat) (e n : Int) : closed (get (TL c e n)) := by
 refine closed_of ?_;simp [TL, closedH, objIn, idsInL, idsIn, idsInT, tmL, lpL, rulesD, Av.get]
theorem TL_dom {c : Dat} {e : Int} {i : Nat} (h : (get (TL c e n) i).isSome = true) : i = 1000 ∨ i = 1002 ∨ i = 1003 ∨ i = 1004 := by
 simp only [TL, Av.get] at h;split at h
 ·rename_i e; exact .inl e.symm
 ·split at h
  ·rename_i e; exact .inr (.inl e.symm)
  ·split at h
   ·rename_i e; exact .inr (.inr (.inl e.symm))
   ·split at h
    ·rename_i e; exact .inr (.inr (.inr e.symm))
    ·cases h
theorem ren_id_dat (ds : List Dat) : renL (fun i : Nat => i) (ds.map .d) = ds.map .d := by
 induction ds with
 | nil => rfl
 | cons d r ih => simp only [List.map_cons, renL, Av.ren, ih]
theorem yield30 (c : Dat) (e n level : Int) (v : Val) (hn : 0 ≤ n ∧ n ≤ 4096) :
  CT .yld [.mp 1000, .d (.int .i64 level), .d (encV v)] ((TL c e n).map fun x => (x.1, some x.2)) (.d (.bool (chkE (n + 1) level v == 0))) (upsL c e (chkE (n + 1) level v) (n + 1)) := by
 have := (round30 c e n level v hn).call (fun i => i) ⟨_, rfl⟩ (fun i j _ _ h => h) (by simp [idsIn]) (closedL c e n) [] (by simp [Av.get]) (closedU c e n _ _) trivial;have ha : ∀ x, (afterL c x).ren (fun i => i) = afterL c x := by
  intro x;unfold afterL;split <;> simp [Obj.ren, renT, tmL, lpL, Av.ren]
 simp only [ha, upsL, List.map_cons, List.map_nil] at this;simp only [TL, upsL, List.map_cons, List.map_nil, Obj.ren, Av.ren, renL, ren_id_dat, lpL, tmL, renT, List.append_nil] at this ⊢;exact this
def foldV (f : Int → Val → Int × Int) : Int → List Val → Int × Int
 | n, [] => (0, n)
 | n, v :: r => if (f n v).1 ≠ 0 then f n v else foldV f (f n v).2 r
def visF : Nat → Int → Val → Int × Int
 | 0, n, v => (chkE (n + 1) 9 v, n + 1)
 | k + 1, n, v => if chkE (n + 1) (8 - k) v ≠ 0 then (chkE (n + 1) (8 - k) v, n + 1) else foldV (visF k) (n + 1) (partsV v)
theorem chk9 (n : Int) (v : Val) : chkE n 9 v ≠ 0 := by
 unfold chkE;split
 ·decide
 ·rw [if_pos dC]; decide
theorem chk_n {level : Int} {v : Val} (h : chkE n level v = 0) : n ≤ 4096 := by
 unfold chkE at h;split at h
 ·cases h
 ·rename_i hx; simpa using hx
theorem foldV_n {f : Int → Val → Int × Int} (hf : ∀ n v, 0 ≤ n → n ≤ 4096 → (f n v).1 = 0 → 0 ≤ (f n v).2 ∧ (f n v).2 ≤ 4096) : ∀ (l : List Val) (n : Int), 0 ≤ n → n ≤ 4096 → (foldV f n l).1 = 0 → 0 ≤ (foldV f n l).2 ∧ (foldV f n l).2 ≤ 4096
 | [], n, h0, h1, h => ⟨h0, h1⟩
 | v :: r, n, h0, h1, h => by
  simp only [foldV] at h ⊢;split at h
  ·rename_i hx; exact absurd h hx
  ·rename_i hx;rw [if_neg hx];simp only [ne_eq, Decidable.not_not] at hx;obtain ⟨q0, q1⟩ := hf n v h0 h1 hx;exact foldV_n hf r _ q0 q1 h
theorem visF_n : ∀ (k : Nat) (n : Int) (v : Val), 0 ≤ n → n ≤ 4096 → (visF k n v).1 = 0 → 0 ≤ (visF k n v).2 ∧ (visF k n v).2 ≤ 4096
 | 0, n, v, h0, h1, h => absurd h (chk9 _ _)
 | k + 1, n, v, h0, h1, h => by
  simp only [visF] at h ⊢;split at h
  ·rename_i hx; exact absurd h hx
  ·rename_i hx;rw [if_neg hx];simp only [ne_eq, Decidable.not_not] at hx;exact foldV_n (visF_n k) _ _ oM (chk_n hx) h
theorem stop177 (c : Dat) (e n level : Int) (v : Val) (h0 : 0 ≤ n) (h1 : n ≤ 4096) (hx : chkE (n + 1) level v ≠ 0) :
  KT 181 [.d (encV v), .d (.int .i64 level), .mp 1000] (TL c e n) (.d (.bool false)) (upsL c e (chkE (n + 1) level v) (n + 1)) := by
 refine ok181.co (k := false) (closedU c e n _ _) trivial ?_;have hy := yield30 c e n level v ⟨h0, h1⟩;have hb : (chkE (n + 1) level v == 0) = false := by simp [hx]
 rw [encV_eq] at hy ⊢;rw [hb] at hy;simp only [TL, go_sem, ir181, simprocAttr];refine wps_call rfl hy ⟨rfl, rfl, rfl, rfl, trivial⟩ ?_;refine zz ?_;exact ⟨fun _ => trivial, fun h => by cases h⟩
theorem call181 {c : Dat} {level e x m : Int} {v : Val} (h : KT 181 [.d (encV v), .d (.int .i64 level), .mp 1000] (TL c e n) (.d (.bool (x == 0))) (upsL c e x m)) :
  CT 181 [.d (encV v), .d (.int .i64 level), .mp 1000] ((TL c e n).map fun x => (x.1, some x.2)) (.d (.bool (x == 0))) (upsL c e x m) := by
 have := h.call (fun i => i) (fun i hi => by rcases TL_dom hi with rfl | rfl | rfl | rfl <;> decide) (fun i j _ _ h => h) (by simp [idsIn, Av.get]) (closedL c e n) [] (by simp [Av.get]) (closedU c e n _ _) trivial;have ha : ∀ x, (afterL c x).ren (fun i => i) = afterL c x := by
  intro x;unfold afterL;split <;> simp [Obj.ren, renT, tmL, lpL, Av.ren]
 simp only [ha, upsL, List.map_cons, List.map_nil] at this;simp only [TL, upsL, List.map_cons, List.map_nil, Obj.ren, Av.ren, renL, ren_id_dat, lpL, tmL, renT, List.append_nil] at this ⊢;exact this
theorem walk181 (c : Dat) : ∀ (k : Nat) (e n : Int) (v : Val), k ≤ 8 → 0 ≤ n → n ≤ 4096 →
  KT 181 [.d (encV v), .d (.int .i64 (9 - k)), .mp 1000] (TL c e n) (.d (.bool ((visF k n v).1 == 0))) (upsL c e (visF k n v).1 (visF k n v).2) := by
 intro k
 induction k with
 | zero =>
  intro e n v hk h0 h1;have hb : (chkE (n + 1) 9 v == 0) = false := by simp [chk9]
  simp only [visF, hb];exact stop177 c e n 9 v h0 h1 (chk9 _ _)
 | succ k ih =>
  intro e n v hk h0 h1;have hl : 9 - ((k + 1 : Nat) : Int) = 8 - k := oM;rw [hl];by_cases hx : chkE (n + 1) (8 - k) v = 0
  ·refine Con.of_fits ok181.has fun hfit => ?_
   obtain ⟨_, f2, f3, _⟩ := fits_V (hfit (encV v) sP);have hv : visF (k + 1) n v = foldV (visF k) (n + 1) (partsV v) := by rw [visF, if_neg (by simp [hx])]
   rw [hv];generalize hF : foldV (visF k) (n + 1) (partsV v) = F;refine ok181.co (k := false) (closedU c e n _ _) trivial ?_;have hy := yield30 c e n (8 - k) v ⟨h0, h1⟩;have h217 := (walk241 v f3).call trivial;have hpl := partsV_len v f2 f3;rw [hx] at hy;have hm := chk_n hx;rw [encV_eq] at hy h217 ⊢;simp only [TL, go_sem, ir181, simprocAttr];refine wps_call rfl hy ⟨rfl, rfl, rfl, rfl, trivial⟩ ?_;simp only [go_sem, afterL, beq_self_eq_true, Bool.not_true, simprocAttr];refine wc h217 ?_;clear h217 hy hv hfit;generalize hP : partsV v = ps at *;simp only [List.length_map];refine wpc_loop (fun r s => ∃ (j : Nat) (m : Int), j ≤ ps.length ∧ r = ps.length - j ∧ 0 ≤ m ∧ m ≤ 4096 ∧ foldV (visF k) m (ps.drop j) = F ∧
    s = ⟨[(1, .d (.int .i64 (8 - k))), (2, .mp 1000), (15, .d (.list 6 (ps.map encV))), (16, .d (.int .i64 ps.length)), (17, .d (.int .i64 j))],
     [(1000, .lp (lpL (tmL c) .ready none)), (1002, .box [.d (.int .i64 e)]), (1003, .box (rulesD.map .d)), (1004, .box [.d (.int .i64 m)])]⟩) ?_ ?_
   ·refine ⟨_, _, Wk.less ?_, 0, n + 1, Nat.zero_le _, rfl, oM, hm, hF, rfl⟩;simp [go_sem, lpL, tmL, rulesD]
   ·rintro r s ⟨j, m, hj, rfl, hm0, hm1, hinv, rfl⟩;by_cases hlt : j < ps.length
    ·have hx' := nth_encV hlt;have hd := dT hlt;have hw : IntKind.i64.wrap (8 - (k : Int) + 1) = 9 - k := by rw [wrap64 oM oM]; omega
     have hc := call181 (ih e m ps[j] oM hm0 hm1);have hn := visF_n k m ps[j] hm0 hm1;rw [List.drop_eq_getElem_cons hlt, foldV] at hinv;generalize hV : visF k m ps[j] = V at *;rw [encV_eq] at hc;refine zz38 ?_;refine ⟨oM, wps_call rfl hc ⟨rfl, rfl, rfl, rfl, trivial⟩ ?_⟩;by_cases h0 : V.1 = 0
     ·rw [if_neg (by simp [h0])] at hinv;simp only [go_sem, h0, afterL, beq_self_eq_true, Bool.not_true, simprocAttr];refine ⟨ps.length - (j + 1), _, oM, Wk.less ?_, j + 1, V.2, oM, rfl, (hn h0).1, (hn h0).2, hinv, rfl⟩;simp [go_sem, wrap64s j oM, lpL, tmL, rulesD]
     ·rw [if_pos h0] at hinv;have hb : (V.1 == 0) = false := by simp [h0]
      subst hinv;simp only [go_sem, hb, Bool.not_false, simprocAttr]
    ·have hd := dF hlt;obtain rfl : j = ps.length := oM;rw [List.drop_length, foldV] at hinv;subst hinv;simp only [go_sem, hd, afterL, beq_self_eq_true, Bool.not_true, simprocAttr]
  ·have hb : (chkE (n + 1) (8 - k) v == 0) = false := by simp [hx]
   have hv : visF (k + 1) n v = (chkE (n + 1) (8 - k) v, n + 1) := by rw [visF, if_pos hx]
   rw [hv];simp only [hb];exact stop177 c e n _ v h0 h1 hx
def chkV (v : Val) : Int := (visF 8 0 v).1
theorem walk180 (v : Val) (c : Dat) (e : Int) :
  KT 180 [.mp 1000, .d (.ptr (encV v).cells)] (TL c e 0) (.tup []) (upsL c e (visF 8 0 v).1 (visF 8 0 v).2) := by
 refine ok180.co (k := false) (closedU c e 0 _ _) trivial ?_;have hc := call181 (walk181 c 8 e 0 v dC dC dC);rw [encV_eq] at hc ⊢;simp only [TL, go_sem, ir180, simprocAttr];have e1 : (9 : Int) - ((8 : Nat) : Int) = 1 := rfl;rw [e1] at hc;refine wps_call rfl hc ⟨rfl, rfl, rfl, rfl, trivial⟩ ?_;exact zz trivial
noncomputable def lp30 (c : Dat) (s : LoopState) (j : Option Code) : Av.Obj := .lp ⟨[(2, .ref 2 0), (3, .ref 3 0), (4, .ref 4 0), (10, .d c)], 46, #[11, 12], subC (codeOf Tryz.f30) [1, 1, 1, 0, 1, 0, 0], subC (codeOf Tryz.f30) [1, 1, 1, 0, 1, 0, 1], s, j⟩
theorem call180 (v : Val) (c : Dat) (e : Int) :
  CT 180 [.mp 57, .d (.ptr (encV v).cells)] [(57, some (lp30 c .ready none)), (2, some (.box [.d (.int .i64 e)])), (3, some (.box (rulesD.map .d))), (4, some (.box [.d (.int .i64 0)]))] (.tup [])
   [(57, if (visF 8 0 v).1 = 0 then lp30 c .ready none else lp30 c .done (some .ret)), (2, .box [.d (.int .i64 (if (visF 8 0 v).1 = 0 then e else (visF 8 0 v).1))]), (4, .box [.d (.int .i64 (visF 8 0 v).2)])] := by
 have hd : ∀ i x m, (hputs (get (TL c e 0)) (upsL c e x m) i).isSome = true → i = 1000 ∨ i = 1002 ∨ i = 1003 ∨ i = 1004 := by
  intro i x m h;rw [← get_puts] at h;have : (get (TL c e 0) i).isSome = true := by
   simp only [TL, upsL, puts, put, simprocAttr] at h;simp only [Av.get] at h ⊢;split at h
   ·simp [*]
   ·split at h
    ·simp [*]
    ·split at h
     ·simp [*]
     ·split at h
      ·simp [*]
      ·cases h
  exact TL_dom this
 have := (walk180 v c e).call (fun i => if i = 1000 then 57 else i - 1000) (fun i hi => by rcases TL_dom hi with rfl | rfl | rfl | rfl <;> decide)
  (fun i j hi hj h => by rcases hd i _ _ hi with rfl | rfl | rfl | rfl <;> rcases hd j _ _ hj with rfl | rfl | rfl | rfl <;> first | rfl | simp at h) (by simp [idsIn, Av.get]) (closedL c e 0) [] (by simp [Av.get]) (closedU c e 0 _ _) trivial
 have ha : ∀ x, (afterL c x).ren (fun i => if i = 1000 then 57 else i - 1000) = if x = 0 then lp30 c .ready none else lp30 c .done (some .ret) := by
  intro x;unfold afterL;split <;> simp [Obj.ren, renT, tmL, lpL, lp30, Av.ren]
 have hr : (Obj.box (rulesD.map .d)).ren (fun i => if i = 1000 then 57 else i - 1000) = .box (rulesD.map .d) := rfl;simp only [ha, hr, TL, upsL, List.map_cons, List.map_nil] at this;simp only [List.map_cons, List.map_nil, Obj.ren, Av.ren, renL, lpL, tmL, renT, List.append_nil, Nat.reduceSub, simprocAttr] at this;exact this
theorem wpc_rng {P : Program} {D : Nat → Prop} {f : Opd} {N lid : Nat} {ps : Array Nat} {c1 c2 : Code} {asg body : Ic} {Q : Exit → St → Prop} {st : St} {g : Nat} {vs : List Av} {T : List (Nat × Option Av.Obj)} {v : Av}
  {ups : List (Nat × Av.Obj)} {l : Lp} (hno : get st.hp lid = none) (ht : targetV (get st.tm) (.dyn f) [.mp lid] = some (.fn g, vs)) (hh : Has P g) (hc : CallOK P g vs T v ups)
  (hT : tgets (Av.upd (get st.hp) lid (some (.lp ⟨st.tm, N, ps, c1, c2, .ready, none⟩))) T) (hl : hputs (Av.upd (get st.hp) lid (some (.lp ⟨st.tm, N, ps, c1, c2, .ready, none⟩))) ups lid = some (.lp l)) (hb : l.s ≠ .busy)
  (hj : (l.j = none ∧ Q .normal ⟨st.tm, put (puts st.hp ups) lid .gone⟩) ∨ (l.j = some .ret ∧ Q .ret ⟨st.tm, put (puts st.hp ups) lid .gone⟩)) : wpc P D (.rng f N lid ps c1 c2 asg body) Q st := by
 simp only [wpc];refine ⟨hno, fun _ _ => ?_⟩;rw [ht];refine ⟨T, v, ups, hh, hc, hT, put (puts st.hp ups) lid .gone, l, fun i hi => by rw [get_put, if_neg hi, get_puts], by rw [get_put, if_pos rfl], hl, hb, ?_⟩;rcases hj with ⟨h, q⟩ | ⟨h, q⟩ <;> rw [h] <;> exact q
theorem walk30 (v : Val) : PT 30 [encV v] (.d (.int .i64 (chkV v))) := by
 refine ok30.pc ?_;have h91 := (walk87 v).call trivial;have h90 := walk86.call trivial;have h176 := call180 v (.fn (.func 180) [] [.ptr (encV v).cells]) 0;rw [encV_eq] at h91 h176 ⊢;simp only [go_sem, ir30, simprocAttr];refine wn h90 ?_;simp only [rulesD, go_sem, simprocAttr];refine wc h91 ?_;by_cases hx : (visF 8 0 v).1 = 0
 ·simp only [hx, ↓reduceIte] at h176;refine wpc_rng rfl rfl ok180.has h176 ⟨rfl, rfl, rfl, rfl, trivial⟩ rfl sP (.inl ⟨rfl, ?_⟩);simp only [go_sem, chkV, hx, simprocAttr]
 ·simp only [hx, ↓reduceIte] at h176;refine wpc_rng rfl rfl ok180.has h176 ⟨rfl, rfl, rfl, rfl, trivial⟩ rfl sP (.inr ⟨rfl, ?_⟩);simp only [go_sem, chkV, simprocAttr]
end Go.Proofs
namespace Go.Proofs
open Go Av
theorem two_dom {o1 o2 : Av.Obj} {i : Nat} (h : (get [(1000, o1), (1001, o2)] i).isSome = true) : i = 1000 ∨ i = 1001 := by
 simp only [Av.get] at h;split at h
 ·rename_i e; exact .inl e.symm
 ·split at h
  ·rename_i e; exact .inr e.symm
  ·cases h
theorem Con.two {P : Program} {f : Nat} {args : List Av} {o1 o2 : Av.Obj} {r : Dat} (h : Con P f args [(1000, o1), (1001, o2)] (.d r) []) (i j : Nat) (hij : i ≠ j)
  (hargs : ∀ c ∈ args, inT (get [(1000, o1), (1001, o2)]) c) (hcl : closed (get [(1000, o1), (1001, o2)])) :
  CallOK P f (args.map (Av.ren fun n => if n = 1000 then i else j)) [(i, some (o1.ren fun n => if n = 1000 then i else j)), (j, some (o2.ren fun n => if n = 1000 then i else j))] (.d r) [] := by
 have := h.call (fun n => if n = 1000 then i else j) (fun k hk => by rcases two_dom hk with rfl | rfl <;> decide) (fun a b ha hb e => ?_) hargs hcl [] sP hcl trivial
 ·simpa [Av.ren] using this
 ·rcases two_dom ha with rfl | rfl <;> rcases two_dom hb with rfl | rfl
  ·rfl
  ·simp at e; exact absurd e hij
  ·simp at e; exact absurd e.symm hij
  ·rfl
end Go.Proofs
namespace Go.Proofs
open Go.Shelf
end Go.Proofs
namespace Go.Proofs
open Go Av
end Go.Proofs
namespace Go.Proofs
open Go Av Go.RowKit
end Go.Proofs
namespace Go.Proofs
open Go Av
end Go.Proofs
namespace Go.Proofs
open Go Av Go.RowKit Go.Shelf
theorem holds_lt {w : World} {b o k : Nat} {v : Value} (h : w.cell? ⟨b, o + k, none⟩ = some v) : b < w.heap.size := by
 rcases Nat.lt_or_ge b w.heap.size with h' | h'
 ·exact h'
 ·simp [World.cell?, Array.getElem?_eq_none h'] at h
end Go.Proofs
namespace Av
open Go
theorem run_copy_rowK {P : Program} (w : World) (dT sT ty elem : TypeId) (g o dLen dCap : Nat) (a : Addr) (sLen sCap n sz : Nat) (cur : Array Value) (t : TypeId) (cs : List Value)
  (hu : P.underlying dT = some (.slice elem)) (hs : (P.info? elem).map (·.size) = some sz)
  (hg : w.heap[g]? = some (.cells cur t (0, 0))) (hn : Nat.min sLen dLen = n) (hcl : cs.length = n * sz)
  (hsrc : ∀ j v, cs[j]? = some v → w.cell? (a.add j) = some v) (hfit : o + cs.length ≤ cur.size) (h1 : ∀ v ∈ cs, v.oneCell' = true) :
  (Builtin.copy_ #[dT, sT] ty #[.slice (some ⟨g, o, none⟩) dLen dCap, .slice (some a) sLen sCap]).run P w =
   .ok (goInt n) (w.setRow g (cur.toList.take o ++ cs ++ cur.toList.drop (o + cs.length)).toArray) := by
 have hl := run_loadCells_list (P := P) w a cs hsrc;have hst := run_storeCells_at P g o t cs 0 cur w hg (sX hfit) h1;cases hq : P.info? elem with
 | none => simp [hq] at hs
 | some i =>
  have hi : i.size = sz := by simpa [hq] using hs
  simp [Builtin.copy_, run_underlying hu, Builtin.lenOf, Builtin.firstCells, Go.sizeOf, Go.typeInfo, hq, hi, hn, ← hcl, hl, hst]
end Av
namespace Go.Proofs
open Go Av Go.RowKit Go.Shelf
variable {w W : World} {x : Go.Obj}
theorem run_overlaps_row {P : Program} (w : World) (tS tR e : TypeId) (ht : P.underlying tS = some (.slice e)) (size : Nat) (hz : ∀ w, (Go.sizeOf e).run P w = .ok size w)
  (a b : Addr) (la ca lb cb : Nat) (hne : a.block ≠ b.block) (tA tB : TypeId) (kA kB : Nat)
  (hsa : w.shape? a.block = some (tA, kA)) (hsb : w.shape? b.block = some (tB, kB)) (hkA : kA ≠ 0)
  (hfb : w.frozen? b = false) (hfe : w.frozen? { block := b.block, off := kB } = false) :
  (Extern.SlicesOverlaps.overlaps #[tS, tS] #[tR] #[.slice (some a) la ca, .slice (some b) lb cb]).run P w = .ok (.bool false) w := by
 have hnb : (a.block != b.block) = true := sX hne;have hnb' : (a.block == b.block) = false := sX hne;change Sem.run P (α := Value) (do
  let some t := (#[tS, tS] : Array TypeId)[0]? | stuck "slices.overlaps: no parameter types"
  let .slice elem ← underlying t | stuck "slices.overlaps: slice type expected"
  let size ← sizeOf elem
  match (some a : Option Addr), (some b : Option Addr) with
  | some a, some b =>
   if la = 0 ∨ lb = 0 ∨ size = 0 then pure (Value.bool false)
   else if a.block != b.block && (← frozen a) && (← frozen b) then unsupported .addressObserved
   else do
    if a.block != b.block then do
     noView a; noView b
     if ← mayBeOne a b then return Value.bool ((← choose (.extern "sameAddr.stringBytes" 2)) == 1)
    pure (Value.bool (a.block == b.block && a.off < b.off + lb * size && b.off < a.off + la * size))
  | _, _ => pure (Value.bool false)) w = _
 by_cases h0 : la = 0 ∨ lb = 0 ∨ size = 0
 ·simp [run_underlying ht, hz, h0]
 ·cases kA with
  | zero => exact absurd rfl hkA
  | succ kA =>
   cases h1 : w.frozen? a <;> cases h2 : w.frozen? { block := a.block, off := kA + 1 } <;>
    simp [run_underlying ht, hz, h0, hnb, hnb', frozen, noView, viewAt, mayBeOne, stringish, shape, Sem.run, hsa, hsb, hfb, hfe, h1, h2]
theorem add_drop {cur : Array Value} {g j o : Nat} {cs : List Value} {v : Value} {t : TypeId} (hg : w.heap[g]? = some (.cells cur t (0, 0))) (h : (cur.toList.drop o)[j]? = some v) : w.cell? ⟨g, o + j, none⟩ = some v := by
 rw [List.getElem?_drop] at h;simp [World.cell?, hg] at h ⊢;exact h
theorem take_get {α : Type} {l : List α} {m j : Nat} {v : α} (h : (l.take m)[j]? = some v) : l[j]? = some v := by
 rw [List.getElem?_take] at h;split at h
 ·exact h
 ·cases h
theorem mem_get {α : Type} {l : List α} {v : α} (h : v ∈ l) : ∃ j : Nat, l[j]? = some v := List.getElem?_of_mem h
set_option maxHeartbeats 6400000 in
set_option maxRecDepth 1000000 in
theorem ins_room (g n c i vb vo vc : Nat) (cur : Array Value) (t : TypeId) (ys : List Value) (w : World) (hi : i < n) (hroom : n + 1 ≤ c) (hn63 : n ≤ 1000000000) (hg : w.heap[g]? = some (.cells cur t (0, 0))) (hcs : cur.size = c * 7) (hvb : vb ≠ g)
  (hyl : ys.length = 7) (hys : ∀ j v, ys[j]? = some v → w.cell? ⟨vb, vo + j, none⟩ = some v) (h1v : ∀ v ∈ ys, v.oneCell' = true) (h1c : ∀ j v, j < n * 7 → cur[j]? = some v → v.oneCell' = true)
  (tA : TypeId) (kA : Nat) (hsa : w.shape? vb = some (tA, kA)) (hkA : kA ≠ 0) :
  Calls Tryz.prog 162 #[.slice (some ⟨g, 0, none⟩) n c, .int .i64 i, .slice (some ⟨vb, vo, none⟩) 1 vc] w fun e w' =>
   e = .returned (.slice (some ⟨g, 0, none⟩) (n + 1) c) ∧ w' = w.drew.setRow g (cur.toList.take (i * 7) ++ ys ++ ((cur.toList.drop (i * 7)).take ((n - i) * 7) ++ cur.toList.drop ((n + 1) * 7))).toArray := by
 have hz2 : ¬ ((i : Int) = (n : Int)) := oM;have hw1 : IntKind.i64.wrap ((i : Int) + 1) = (i : Int) + 1 := by rw [IntKind.wrap_i64]; omega
 have hw2 : IntKind.i64.wrap ((n : Int) + 1) = (n : Int) + 1 := by rw [IntKind.wrap_i64]; omega
 have hb1 : (0 : Int) ≤ (i : Int) + 1 := oM;have hin : i ≤ n := oM;have htn : ((i : Int) + 1).toNat = i + 1 := oM;have hb2 : ¬ (c = i + 1) := oM;have hb3 : (i : Int) ≤ (n : Int) + 1 := oM;have hb4 : ¬ (c = i) := oM;have hsb : w.shape? g = some (t, c * 7) := by simp [World.shape?, hg, hcs]
 have hfr : ∀ j, w.frozen? ⟨g, j, none⟩ = false := fun j => by simp [World.frozen?, hg]
 have hsz : (Tryz.prog.info? 113).map (·.size) = some 7 := kR;have hov : ∀ lb cb, (callFunc 237 #[.slice (some ⟨vb, vo, none⟩) 1 vc, .slice (some ⟨g, (i + 1) * 7, none⟩) lb cb]).run Tryz.prog w = .ok (.value (.bool false)) w := fun lb cb => by
  rw [run_callFunc_extern Tryz.func237 kR kR kR (e := Extern.SlicesOverlaps.overlaps #[28, 28] #[4]) kR,
   run_overlaps_row w 28 4 113 Tryz.underlying28 7 Tryz.sizeOf113 ⟨vb, vo, none⟩ ⟨g, (i + 1) * 7, none⟩ 1 vc lb cb hvb tA t kA (c * 7) hsa hsb hkA (hfr _) (hfr _)]
  rfl
 obtain ⟨cs, hcs0⟩ : ∃ cs, cs = (cur.toList.drop (i * 7)).take ((n - i) * 7) := ⟨_, rfl⟩;have hcl : cs.length = (n - i) * 7 := by rw [hcs0, List.length_take, List.length_drop, Array.length_toList, hcs]; omega
 obtain ⟨R1, hR1⟩ : ∃ R1 : List Value, R1 = cur.toList.take ((i + 1) * 7) ++ cs ++ cur.toList.drop ((i + 1) * 7 + cs.length) := ⟨_, rfl⟩;have hcp1 : ∀ ty dl dc sl sc, Nat.min sl dl = n - i → (Builtin.copy_ #[28, 28] ty #[.slice (some ⟨g, (i + 1) * 7, none⟩) dl dc, .slice (some ⟨g, i * 7, none⟩) sl sc]).run Tryz.prog w.drew = .ok (goInt ((n - i : Nat) : Int)) (w.drew.setRow g R1.toArray) := fun ty dl dc sl sc hm => by
  rw [hR1];refine run_copy_rowK w.drew 28 28 ty 113 g ((i + 1) * 7) dl dc ⟨g, i * 7, none⟩ sl sc (n - i) 7 cur t cs Tryz.underlying28 hsz hg hm hcl ?_ (by rw [hcl, hcs]; omega) ?_
  ·intro j v hj;rw [hcs0] at hj;rw [Addr.add_lit];exact add_drop (cs := []) hg (take_get hj)
  ·intro v hv;obtain ⟨j, hj⟩ := mem_get hv;have hjl := (List.getElem?_eq_some_iff.1 hj).1;rw [hcs0] at hj;have h2 := take_get hj;rw [List.getElem?_drop] at h2;exact h1c (i * 7 + j) v (by rw [hcl] at hjl; omega) (sX h2)
 have hR1l : R1.length = c * 7 := by
  rw [hR1];simp only [List.length_append, List.length_take, List.length_drop, Array.length_toList, hcs, hcl];omega
 have hR : R1.take (i * 7) ++ ys ++ R1.drop (i * 7 + ys.length) = cur.toList.take (i * 7) ++ ys ++ (cs ++ cur.toList.drop ((n + 1) * 7)) := by
  have e1 : R1.take (i * 7) = cur.toList.take (i * 7) := by
   rw [hR1, List.append_assoc, List.take_append_of_le_length (by rw [List.length_take, Array.length_toList, hcs]; omega), List.take_take];congr 1;omega
  have e2 : R1.drop (i * 7 + ys.length) = cs ++ cur.toList.drop ((n + 1) * 7) := by
   have e3 : (cur.toList.take ((i + 1) * 7)).length = i * 7 + ys.length := by rw [List.length_take, Array.length_toList, hcs, hyl]; omega
   rw [hR1, List.append_assoc, ← e3, List.drop_left, hcl];congr 2;omega
  rw [e1, e2]
 have hcp2 : ∀ ty dl dc, 1 ≤ dl → (Builtin.copy_ #[28, 28] ty #[.slice (some ⟨g, i * 7, none⟩) dl dc, .slice (some ⟨vb, vo, none⟩) 1 vc]).run Tryz.prog (w.drew.setRow g R1.toArray) = .ok (goInt ((1 : Nat) : Int)) (w.drew.setRow g (cur.toList.take (i * 7) ++ ys ++ (cs ++ cur.toList.drop ((n + 1) * 7))).toArray) := fun ty dl dc hd => by
  have h := run_copy_rowK (w.drew.setRow g R1.toArray) 28 28 ty 113 g (i * 7) dl dc ⟨vb, vo, none⟩ 1 vc 1 7 R1.toArray t ys Tryz.underlying28 hsz (setRow_heap w.drew g cur _ t (0, 0) hg) (by simp only [Nat.min_def]; split <;> omega) oM (fun j v hj => by rw [Addr.add_lit, cell_setRow_other _ _ _ _ hvb]; exact hys j v hj) (by simp only [List.size_toArray]; omega) h1v;rw [setRow_setRow, List.toList_toArray, hR] at h;exact h
 rw [← hcs0];have mixed : Tryz.prog.follows Departure.mixedOrders = true := kR;have hcp3 := fun ty dc sc => hcp1 ty (n - i) dc (n + 1 - i) sc (by simp only [Nat.min_def]; split <;> omega)
 have hcp4 := fun ty dc => hcp2 ty (n + 1 - i) dc oM
 clear hR hR1l hcp1 hcp2 hR1 hcl hcs0
 go_enter Tryz.func162, Tryz.ntmps162
 go_wp2_with (simp only [hov])
 go_region_law_o (refine step_copy_runI rfl _ _ 28 28 rfl _ _ (by simp [Act.eval, Act.put]) (by simp [Act.eval, Act.put]) (hcp3 _ _ _) ?_)
 go_wp2_with (at_builtin; refine wpList_copy_runI _ rfl _ _ 28 28 rfl _ _ rfl rfl (hcp4 _ _) ?_)
 go_ret
 exact ⟨rfl, by simp only [List.append_assoc]⟩
theorem heap_setRow {C C' : Array Value} {t : TypeId} (h : W.heap = w.heap.push (.cells C t)) : (W.setRow w.heap.size C').heap = w.heap.push (.cells C' t) := by
 have hm : ∀ (a : Array Go.Obj) (x : Go.Obj) (f : Go.Obj → Go.Obj), (a.push x).modify a.size f = a.push (f x) := by
  intro a x f;apply Array.ext
  ·simp
  ·intro i h1 h2;simp only [Array.getElem_modify, Array.getElem_push];by_cases h : a.size = i
   ·subst h;simp
   ·have hi : i < a.size := by simp at h1; omega
    simp [h, hi]
 unfold World.setRow;simp only [h];rw [hm]
theorem heap_at (h : W.heap = w.heap.push x) : W.heap[w.heap.size]? = some x := by rw [h]; simp
theorem heap_old (h : W.heap = w.heap.push x) {b : Nat} (hb : b < w.heap.size) : W.heap[b]? = w.heap[b]? := by
 rw [h, Array.getElem?_push, if_neg oM]
theorem cell_old (h : W.heap = w.heap.push x) {a : Addr} (hb : a.block < w.heap.size) : W.cell? a = w.cell? a := cell_of_heap (heap_old h hb)
abbrev zF : Value := .agg #[.string ⟨#[]⟩, .int .i64 0, .int .i64 0, .int .i64 0, .string ⟨#[]⟩, .slice none 0 0, .slice none 0 0]
theorem info77 : (Tryz.prog.info? 113).map (fun i => (i.zero, i.size, i.bytes)) = some (some zF, 7, 104) := kR
set_option maxHeartbeats 6400000 in
set_option maxRecDepth 1000000 in
theorem ins_grow (g n c i vb vo vc : Nat) (cur : Array Value) (t : TypeId) (ys : List Value) (w : World) (hi : i < n) (hnc : n ≤ c) (hroom : c < n + 1) (hbig : n ≤ 1000000000) (hg : w.heap[g]? = some (.cells cur t (0, 0))) (hcs : cur.size = c * 7) (hvw : vb < w.heap.size)
  (hyl : ys.length = 7) (hys : ∀ j v, ys[j]? = some v → w.cell? ⟨vb, vo + j, none⟩ = some v) (h1v : ∀ v ∈ ys, v.oneCell' = true) (h1c : ∀ j v, j < n * 7 → cur[j]? = some v → v.oneCell' = true) :
  Calls Tryz.prog 162 #[.slice (some ⟨g, 0, none⟩) n c, .int .i64 i, .slice (some ⟨vb, vo, none⟩) 1 vc] w fun e w' =>
   ∃ G FIN, e = .returned (.slice (some ⟨w.heap.size, 0, none⟩) (n + 1) G) ∧ n + 1 ≤ G ∧ w'.heap = w.heap.push (.cells (cur.toList.take (i * 7) ++ ys ++ ((cur.toList.drop (i * 7)).take ((n - i) * 7) ++ FIN)).toArray 113) ∧ FIN.length = (G - (n + 1)) * 7 ∧
    w'.os = w.os ∧ w'.tape = w.tape ∧ w'.output = w.output := by
 obtain ⟨i0, hi0, hz0, hzs, hzb⟩ := info_parts info77;have hz2 : ¬ ((i : Int) = (n : Int)) := oM;have hz3 : (c : Int) < (n : Int) + 1 := oM;have hsz : (Tryz.prog.info? 113).map (·.size) = some 7 := kR;have hbw : g < w.heap.size := by
  rcases Nat.lt_or_ge g w.heap.size with h' | h'
  ·exact h'
  ·simp [Array.getElem?_eq_none h'] at hg
 have hkk : (n : Int) + 1 - (i : Int) = ((n + 1 - i : Nat) : Int) := oM;have hik : i + (n + 1 - i) = n + 1 := oM;obtain ⟨hd, hhd⟩ : ∃ hd, hd = cur.toList.take (i * 7) := ⟨_, rfl⟩;have hhl : hd.length = i * 7 := by rw [hhd, List.length_take, Array.length_toList, hcs]; omega
 have hold : (Builtin.firstCells i0.size i (.slice (some ⟨g, 0, none⟩) i c)).run Tryz.prog w.drew = .ok hd.toArray w.drew := by
  rw [hzs];exact run_firstCells_some w.drew 7 i ⟨g, 0, none⟩ i c hd hhl (fun j v hj => by
   rw [Addr.add_lit];rw [hhd] at hj;have := take_get hj;exact add_drop (w := w.drew) (o := 0) (cs := []) hg (sX this))
 obtain ⟨G, hG⟩ : ∃ G, G = grownCap w (n + 1) c 113 := ⟨_, rfl⟩;have hrz : ∀ ty, (Builtin.append_ #[28, 3] ty #[.slice (some ⟨g, 0, none⟩) i c, .int .i64 ((n : Int) + 1 - (i : Int))]).run Tryz.prog w =
   .ok (.slice (some ⟨w.heap.size, 0, none⟩) (n + 1) G) (w.drew.alloc (.cells (hd.toArray ++ Builtin.zeroCells zF.cells (n + 1 - i) ++ Builtin.zeroCells zF.cells (G - (n + 1))) 113)) := fun ty => by
  have h := Lib.run_append_grow_zeros w 28 3 ty 113 i0 _ .i64 .i64 Tryz.underlying28 Tryz.underlying3 hi0 hz0 (some ⟨g, 0, none⟩) i c hd hold (n + 1 - i) oM oM oM oM (by rw [hzb]; omega) (by rw [hzb, hik]; exact growslice_fits hroom oM);rw [hik] at h;rw [hkk, hG];exact h
 have hGn : n + 1 ≤ G := by rw [hG]; exact grownCap_ge w _ _ _
 have hG63 : G ≤ 9223372036854775807 := by
  have := grownCap_le_maxLen w (n + 1) c 113 (by unfold maxLen; omega);rw [← hG] at this;unfold maxLen at this;omega
 obtain ⟨ROW, hROW⟩ : ∃ ROW : Array Value, ROW = hd.toArray ++ Builtin.zeroCells zF.cells (n + 1 - i) ++ Builtin.zeroCells zF.cells (G - (n + 1)) := ⟨_, rfl⟩;rw [← hROW] at hrz;have hRl : ROW.size = G * 7 := by
  have hz7 : zF.cells.size = 7 := rfl;rw [hROW];simp only [Array.size_append, List.size_toArray, size_zeroCells, hz7, hhl];omega
 obtain ⟨cs, hcs0⟩ : ∃ cs, cs = (cur.toList.drop (i * 7)).take ((n - i) * 7) := ⟨_, rfl⟩;have hcl : cs.length = (n - i) * 7 := by rw [hcs0, List.length_take, List.length_drop, Array.length_toList, hcs]; omega
 have hHD : ROW.toList.take (i * 7) = hd := by
  rw [hROW, Array.toList_append, Array.toList_append, List.append_assoc, List.toList_toArray, ← hhl, List.take_left]
 obtain ⟨R1, hR1⟩ : ∃ R1 : List Value, R1 = hd ++ ys ++ ROW.toList.drop (i * 7 + ys.length) := ⟨_, rfl⟩;have hR1l : R1.length = G * 7 := by
  rw [hR1];simp only [List.length_append, List.length_drop, Array.length_toList, hRl, hhl, hyl];omega
 obtain ⟨FIN, hFIN⟩ : ∃ FIN, FIN = R1.drop ((n + 1) * 7) := ⟨_, rfl⟩;have hFl : FIN.length = (G - (n + 1)) * 7 := by rw [hFIN, List.length_drop, hR1l]; omega
 have hR2 : R1.take ((i + 1) * 7) ++ cs ++ R1.drop ((i + 1) * 7 + cs.length) = hd ++ ys ++ (cs ++ FIN) := by
  have e1 : R1.take ((i + 1) * 7) = hd ++ ys := by
   have : (hd ++ ys).length = (i + 1) * 7 := by rw [List.length_append, hhl, hyl]; omega
   rw [hR1, ← this, List.take_left]
  rw [e1, List.append_assoc, hFIN, hcl];congr 3;omega
 have hcpA : ∀ (W : World), W.heap = w.heap.push (.cells ROW 113) → ∀ ty dc, (Builtin.copy_ #[28, 28] ty #[.slice (some ⟨w.heap.size, i * 7, none⟩) (n + 1 - i) dc, .slice (some ⟨vb, vo, none⟩) 1 vc]).run Tryz.prog W = .ok (goInt ((1 : Nat) : Int)) (W.setRow w.heap.size R1.toArray) := fun W hW ty dc => by
  have h := run_copy_rowK W 28 28 ty 113 w.heap.size (i * 7) (n + 1 - i) dc ⟨vb, vo, none⟩ 1 vc 1 7 ROW 113 ys Tryz.underlying28 hsz (heap_at hW) (by simp only [Nat.min_def]; split <;> omega) oM
   (fun j v hj => by rw [Addr.add_lit, cell_old hW hvw]; exact hys j v hj) (by rw [hyl, hRl]; omega) h1v
  rw [hHD, ← hR1] at h;exact h
 have hcpB : ∀ (W : World), W.heap = w.heap.push (.cells R1.toArray 113) → ∀ ty dc sc, (Builtin.copy_ #[28, 28] ty #[.slice (some ⟨w.heap.size, (i + 1) * 7, none⟩) (n - i) dc, .slice (some ⟨g, i * 7, none⟩) (n - i) sc]).run Tryz.prog W = .ok (goInt ((n - i : Nat) : Int)) (W.setRow w.heap.size (hd ++ ys ++ (cs ++ FIN)).toArray) := fun W hW ty dc sc => by
  have h := run_copy_rowK W 28 28 ty 113 w.heap.size ((i + 1) * 7) (n - i) dc ⟨g, i * 7, none⟩ (n - i) sc (n - i) 7 R1.toArray 113 cs Tryz.underlying28 hsz (heap_at hW) (by simp only [Nat.min_def]; split <;> omega) hcl
   (fun j v hj => by
    rw [Addr.add_lit, cell_old hW hbw];rw [hcs0] at hj;exact add_drop (cs := []) hg (take_get hj)) (by simp only [List.size_toArray, hR1l, hcl]; omega)
   (fun v hv => by
    obtain ⟨j, hj⟩ := mem_get hv;have hjl := (List.getElem?_eq_some_iff.1 hj).1;rw [hcs0] at hj;have h2 := take_get hj;rw [List.getElem?_drop] at h2;exact h1c (i * 7 + j) v (by rw [hcl] at hjl; omega) (sX h2))
  rw [List.toList_toArray, hR2] at h;exact h
 have hw1 : IntKind.i64.wrap ((i : Int) + 1) = (i : Int) + 1 := by rw [IntKind.wrap_i64]; omega
 have hw2 : IntKind.i64.wrap ((n : Int) + 1) = (n : Int) + 1 := by rw [IntKind.wrap_i64]; omega
 have hb1 : (0 : Int) ≤ (i : Int) + 1 := oM;have hin : i ≤ n := oM;have htn : ((i : Int) + 1).toNat = i + 1 := oM;have hb3 : (i : Int) ≤ (n : Int) := oM;have hGi : ¬ (G = i) := oM;have hGim : ¬ (G = i + 1) := oM;have hci : ¬ (c = i) := oM;rw [← hcs0, ← hhd];have mixed : Tryz.prog.follows Departure.mixedOrders = true := kR;have hN0 : (w.alloc (.cells ROW 113)).drew.heap = w.heap.push (.cells ROW 113) := rfl;have hN1 : ((w.alloc (.cells ROW 113)).drew.setRow w.heap.size R1.toArray).drew.heap = w.heap.push (.cells R1.toArray 113) := heap_setRow hN0;have hN2 : ∀ C' : Array Value, (((w.alloc (.cells ROW 113)).drew.setRow w.heap.size R1.toArray).drew.setRow w.heap.size C').heap = w.heap.push (.cells C' 113) := fun C' => heap_setRow hN1
 generalize hFN : hd ++ ys ++ (cs ++ FIN) = FN at hcpB;clear hkk hik hold hROW hG hRl hR1 hR1l hFIN hR2 hHD hhd hcs0 hhl hcl h1c hys
 go_enter Tryz.func162, Tryz.ntmps162
 go_wp2_with (first
  | (at_builtin; refine Lib.wpList_append_run _ rfl _ _ _ _ rfl _ _ rfl rfl _ _ (hrz _) ?_)
  | (at_builtin; refine wpList_copy_runI _ rfl _ _ 28 28 rfl _ _ rfl rfl (hcpA _ hN0 _ _) ?_))
 go_region_law_o (refine step_copy_runI rfl _ _ 28 28 rfl _ _ (by simp [Act.eval, Act.put]) (by simp [Act.eval, Act.put]) (hcpB _ hN1 _ _ _) ?_)
 go_wp2
 go_ret
 refine ⟨G, FIN, rfl, hGn, ?_, hFl, rfl, rfl, rfl⟩;rw [hFN];exact hN2 _
end Go.Proofs
namespace Go.Proofs
open Go Av Go.RowKit Go.Shelf
variable {A : Nat → Prop} {w : World} {F : List Dat} {V : List Value}
def Pt (A : Nat → Prop) (w : World) (F : List Dat) (V : List Value) : Prop := F.length = V.length ∧ ∀ (j : Nat) c v, F[j]? = some c → V[j]? = some v → Rep A w c v ∧ v.oneCell' = true
theorem Pt.app {F' : List Dat} {V' : List Value} (h : Pt A w F V) (h' : Pt A w F' V') : Pt A w (F ++ F') (V ++ V') := by
 refine ⟨by rw [List.length_append, List.length_append, h.1, h'.1], fun j c v hc hv => ?_⟩;by_cases hj : j < F.length
 ·rw [List.getElem?_append_left hj] at hc;rw [List.getElem?_append_left (by rw [← h.1]; exact hj)] at hv;exact h.2 j c v hc hv
 ·rw [List.getElem?_append_right oM] at hc;rw [List.getElem?_append_right (by rw [← h.1]; omega), ← h.1] at hv;exact h'.2 _ c v hc hv
theorem Pt.take (h : Pt A w F V) (k : Nat) : Pt A w (F.take k) (V.take k) :=
 ⟨by simp [h.1], fun j c v hc hv => h.2 j c v (take_get hc) (take_get hv)⟩
theorem Pt.drop (h : Pt A w F V) (k : Nat) : Pt A w (F.drop k) (V.drop k) :=
 ⟨by simp [h.1], fun j c v hc hv => by
  rw [List.getElem?_drop] at hc hv;exact h.2 _ c v hc hv⟩
theorem Pt.one {R : List Value} (h : Pt A w F V) (j : Nat) (v : Value) (hj : j < F.length) (hv : ((V ++ R).toArray)[j]? = some v) : v.oneCell' = true := by
 rw [List.getElem?_toArray, List.getElem?_append_left (by rw [← h.1]; exact hj)] at hv;exact (h.2 j _ v (List.getElem?_eq_getElem hj) hv).2
theorem Pt.rep {R : List Value} (h : Pt A w F V) (j : Nat) (c : Dat) (v : Value) (hc : F[j]? = some c) (hv : ((V ++ R).toArray)[j]? = some v) : Rep A w c v := by
 have hj : j < F.length := (List.getElem?_eq_some_iff.1 hc).1;rw [List.getElem?_toArray, List.getElem?_append_left (by rw [← h.1]; exact hj)] at hv;exact (h.2 j c v hc hv).1
theorem mem_insD {xs : List Dat} {y : Dat} {k : Nat} (hs : ∀ x ∈ xs, x.cells.length = 7) (hy : y.cells.length = 7) : ∀ x ∈ xs.take k ++ y :: xs.drop k, x.cells.length = 7 := by
 intro x hx;rcases List.mem_append.1 hx with h | h
 ·exact hs x (List.mem_of_mem_take h)
 ·rcases List.mem_cons.1 h with rfl | h
  ·exact hy
  ·exact hs x (List.mem_of_mem_drop h)
theorem shape_of {b o : Nat} {v : Value} (h : w.cell? ⟨b, o, none⟩ = some v) : ∃ t k, w.shape? b = some (t, k) ∧ k ≠ 0 ∧ b < w.heap.size := by
 have hb : b < w.heap.size := holds_lt (o := o) (k := 0) h;unfold World.cell? at h;unfold World.shape?;cases e : w.heap[b]? with
 | none => simp [e] at h
 | some x =>
  cases x with
  | cells c t f =>
   simp only [e] at h;refine ⟨t, c.size, rfl, ?_, hb⟩;have h' : c[o]? = some v := sX h;have := (Array.getElem?_eq_some_iff.1 h').1;omega
  | _ => simp [e] at h
theorem ins_ok (i v k : Nat) (xs : List Dat) (y : Dat) (hk : k < xs.length) (hx : xs.length ≤ 1000000000) (hy : y.cells.length = 7) :
  CT (.fn 162) [.ms i v, .d (.int .i64 k), .d (.list 7 [y])] [(i, some (.row v 7 xs))] (.ms i (v + 1)) [(i, .row (v + 1) 7 (xs.take k ++ y :: xs.drop k))] := by
 intro β A w H vs hT hc hvs;have hi : H i = some (.row v 7 xs) := hT _ (List.mem_cons_self);obtain ⟨x1, x2, x3, rfl⟩ : ∃ x y z, vs = #[x, y, z] := by
  have h3 : 3 = vs.size := sX hvs.1;refine ⟨vs[0], vs[1], vs[2], ?_⟩;apply Array.ext
  ·simp [← h3]
  ·intro i h1 h2;have : i = 0 ∨ i = 1 ∨ i = 2 := oM;rcases this with rfl | rfl | rfl <;> rfl
 have h1 := hvs.2 0 _ x1 rfl rfl;have h2 := (hvs.2 1 _ x2 rfl rfl).of_d;have h3 := (hvs.2 2 _ x3 rfl rfl).of_d;cases h2;have hls : (xs.take k ++ y :: xs.drop k).length = xs.length + 1 := sO;obtain ⟨_, hs, hbnd, hob⟩ := hc.objs i _ hi;have hsm := mem_insD (k := k) hs hy;rcases hob with ⟨_, rfl⟩ | ⟨b, C, T, cap, hb, hh, hC, hle, hone, hrep⟩
 ·simp at hk
 have hfl : (flat xs).length = xs.length * 7 := flat_length hs;have hP : Pt A w (flat xs) (C.toList.take (xs.length * 7)) := by
  have hCl : C.toList.length = cap * 7 := sX hC;refine ⟨by rw [hfl, List.length_take, hCl]; omega, fun j c u hcj huj => ?_⟩;have hj : j < (flat xs).length := (List.getElem?_eq_some_iff.1 hcj).1;have hu := take_get huj;rw [Array.getElem?_toList] at hu;exact ⟨hrep j c u hcj hu, hone j u hj hu⟩
 have hP1 := hP.take (k * 7);have hP3 := hP.drop (k * 7);rw [List.take_take, show min (k * 7) (xs.length * 7) = k * 7 by omega] at hP1;rw [List.drop_take, ← Nat.sub_mul] at hP3;have hu1 : x1 = .slice (some ⟨b, 0, none⟩) xs.length cap := by
  cases h1 with
  | ms _ _ _ hu h0 g1 g2 =>
   rcases (g1 v 7 xs hi).2 rfl with ⟨hn, _⟩ | ⟨b', C', T', fz, cap', hb', hh', hC', hn', rfl⟩
   ·rw [hb] at hn; cases hn
   ·rw [hb] at hb';cases hb';rw [hh] at hh';cases hh';have : cap' = cap := oM;rw [this]
 subst hu1;cases h3 with
 | list _ _ vb vo n cap0 vs hn hA hlc hcc hv1 hs1 hhv hvl hvv =>
  have hn1 : n = 1 := hn;subst hn1;have hfy : flat [y] = y.cells := by simp [flat]
  rw [hfy] at hvl hvv;have hyl : vs.length = 7 := oM;have hP2 : Pt A w y.cells vs := ⟨oM, fun j c u hcj huj => ⟨hvv j c u hcj huj, hv1 u (List.mem_of_getElem? huj)⟩⟩;have hPA := (hP1.app hP2).app hP3;have hfe : flat (xs.take k ++ y :: xs.drop k) = (flat xs).take (k * 7) ++ y.cells ++ (flat xs).drop (k * 7) := by
   rw [flat_append, flat_cons, flat_take k hs, flat_drop k hs, List.append_assoc]
  rw [← hfe] at hPA;obtain ⟨u0, hu0⟩ : ∃ u, vs[0]? = some u := ⟨vs[0], List.getElem?_eq_getElem oM⟩;obtain ⟨tA, kA, hsa, hkA, hvb⟩ := shape_of (hhv 0 u0 hu0);have hne : vb ≠ b := fun e => hc.sep i _ b hi rfl (by rw [hb]; exact BK.has_one.2 rfl) (e ▸ hA)
  have hone' : ∀ j u, j < xs.length * 7 → C[j]? = some u → u.oneCell' = true := fun j u hj hu => hone j u oM hu
  have hhas := hasT (f := 162) Tryz.func162 kR kR;by_cases hroom : xs.length + 1 ≤ cap
  ·refine .inl ⟨hhas, (ins_room b xs.length cap k vb vo cap0 C T vs w hk hroom hx hh hC hne hyl hhv hv1 hone' tA kA hsa hkA).mono ?_⟩;rintro e w' ⟨rfl, rfl⟩;have hw1 := Stp.draw hc (w₁ := w.drew) rfl rfl rfl rfl;have hP' : Pt A w.drew (flat (xs.take k ++ y :: xs.drop k)) (C.toList.take (k * 7) ++ vs ++ (C.toList.drop (k * 7)).take ((xs.length - k) * 7)) :=
    ⟨hPA.1, fun j c u h1 h2 => ⟨(hPA.2 j c u h1 h2).1.mono (fun _ _ => rfl) (fun _ h => h), (hPA.2 j c u h1 h2).2⟩⟩
   rw [← List.append_assoc];have hsz : ((C.toList.take (k * 7) ++ vs ++ (C.toList.drop (k * 7)).take ((xs.length - k) * 7)) ++ C.toList.drop ((xs.length + 1) * 7)).toArray.size = C.size := by
    have hCl : C.toList.length = C.size := sP;rw [List.size_toArray, List.length_append, ← hP'.1, flat_length hsm, hls, List.length_drop, hCl, hC];omega
   have hst := Stp.rowSet hw1.core hi hb (by exact hh) hC hsz (Nat.le_succ v) (fun h => by omega) hsm oM oM (fun j u hj hu => hP'.one j u hj hu) (fun j c u h1 h2 => hP'.rep j c u h1 h2);refine ⟨_, rfl, β, A, hw1.trans hst, ?_⟩;refine .ms _ _ _ rfl (by simp [hputs, upd]) ?_ (by simp [hputs, upd]);intro v3 sz3 xs3 h3;simp only [hputs, upd, if_true, Option.some.injEq, Obj.row.injEq] at h3;obtain ⟨rfl, rfl, rfl⟩ := h3;exact ⟨Nat.le_refl _, fun _ => .inr ⟨b, _, T, (0, 0), cap, hb, setRow_heap w.drew b C _ T (0, 0) hh, by rw [hsz, hC], oM, by rw [hls]⟩⟩
  ·refine .inl ⟨hhas, (ins_grow b xs.length cap k vb vo cap0 C T vs w hk hle oM hx hh hC hvb hyl hhv hv1 hone').mono ?_⟩;rintro e w' ⟨G, FIN, rfl, hG, hheap, hFl, hos, htp, hout⟩;rw [← List.append_assoc] at hheap;have hsz : ((C.toList.take (k * 7) ++ vs ++ (C.toList.drop (k * 7)).take ((xs.length - k) * 7)) ++ FIN).toArray.size = G * 7 := by
    rw [List.size_toArray, List.length_append, ← hPA.1, flat_length hsm, hls, hFl];omega
   have hst := Stp.rowNew hc (j := i) (ver' := v + 1) (.inr ⟨v, 7, xs, hi, Nat.lt_succ_self v⟩) (w1 := w) rfl rfl rfl rfl oM hsm oM oM hsz (fun j u hj hu => hPA.one j u hj hu) (fun j c u h1 h2 => hPA.rep j c u h1 h2) (e := 113);have hst2 := hst.trans (Stp.draw hst.core (w₁ := w') (by rw [hheap]; rfl) hos htp hout);refine ⟨_, rfl, _, A, hst2, ?_⟩;refine .ms _ _ _ rfl (by simp [hputs, upd]) ?_ (by simp [hputs, upd]);intro v3 sz3 xs3 h3;simp only [hputs, upd, if_true, Option.some.injEq, Obj.row.injEq] at h3;obtain ⟨rfl, rfl, rfl⟩ := h3;exact ⟨Nat.le_refl _, fun _ => .inr ⟨w.heap.size, _, 113, (0, 0), G, upd_same _ _ _, heap_at hheap, hsz, oM, by rw [hls]⟩⟩
end Go.Proofs
namespace Go.Proofs
open Go Av
open Av.Y
def ir226 : Ic := q (R (ox 1 0<|oN 2 vG<|N) [0])<|q (R (of 6 1 3<|oL 7 7 6<|cl 8 145 [t 7]<|of 9 1 3<|oS 7 9 8<|N) [6,7,8,9])<|q (R (of 10 1 10<|ol 11 10<|oh 12 11<|oo 13 (.mks 6 [.int .i64 0,.int .i64 0,.int .i64 0,.str [],.nil 6,.nil 7] (i 0) (t 12))<|om 3 13<|N) [10,11,12,13])<|q (q (R (of 14 1 10<|ol 15 14<|oh 16 15<|oz 17 0<|N) [14])<|D (.block 0<|.loop (q (.reg (ot 18 .lss 17 16<|N))<|q (D (I 18 S (E 0)) [18])<|q (D (.block 1<|q (R (oa true 19 6 15 17<|oL 20 6 19<|oN 5 v6<|oS 6 5 20<|N) [19,20])<|R (om 21 3<|oL 22 6 5<|cl 23 54 [t 22]<|oo 24 (.bls 6 [t 23])<|oo 25 (.app 6 (t 21) (t 24))<|om 3 25<|N) [5,21,22,23,24,25]) [])<|R (oi 26 .add 17 1<|om 17 26<|N) [26])) [15,16,17,18,5])<|q (R (om 27 3<|of 28 1 10<|os 28 27<|N) [3,27,28])<|q (R (oL 29 11 1<|oS 11 2 29<|N) [1,29])<|.ret
theorem ok226 : FT 226 30 ir226 [.cell 2 (some 11)] := .o Tryz.func226
def ir145 : Ic := q (R (ox 1 0<|oN 2 vT<|N) [0])<|q (R (of 9 1 5<|ol 10 9<|oh 11 10<|oo 12 (.mks 7 [.int .i64 0,.int .i64 0,.int .i64 0,.int .i64 0,.nil 1,.nil 7,.nil 11] (i 0) (t 11))<|om 3 12<|N) [9,10,11,12])<|q (q (R (of 13 1 5<|ol 14 13<|oh 15 14<|oz 16 0<|N) [13])<|D (.block 0<|.loop (q (.reg (ot 17 .lss 16 15<|N))<|q (D (I 17 S (E 0)) [17])<|q (D (.block 1<|q (R (oa true 18 7 14 16<|oL 19 7 18<|oN 5 vT<|oS 7 5 19<|N) [18,19])<|R (om 20 3<|oL 21 7 5<|cl 22 145 [t 21]<|oo 23 (.bls 7 [t 22])<|oo 24 (.app 7 (t 20) (t 23))<|om 3 24<|N) [5,20,21,22,23,24]) [])<|R (oi 25 .add 16 1<|om 16 25<|N) [25])) [14,15,16,17,5])<|q (R (of 26 1 6<|ol 27 26<|oh 28 27<|oo 29 (.mks 11 [.int .i64 0,.str [],.int .i64 0,.int .i64 0,.int .i64 0,.int .i64 0,.int .i64 0,.nil 1,.nil 7,.nil 11,.nil 6] (i 0) (t 28))<|om 6 29<|N) [26,27,28,29])<|q (q (R (of 30 1 6<|ol 31 30<|oh 32 31<|oz 33 0<|N) [30])<|D (.block 2<|.loop (q (.reg (ot 34 .lss 33 32<|N))<|q (D (I 34 S (E 2)) [34])<|q (D (.block 3<|q (R (oa true 35 11 31 33<|oL 36 11 35<|oN 8 vG<|oS 11 8 36<|N) [35,36])<|R (om 37 6<|oL 38 11 8<|cl 39 226 [t 38]<|oo 40 (.bls 11 [t 39])<|oo 41 (.app 11 (t 37) (t 40))<|om 6 41<|N) [8,37,38,39,40,41]) [])<|R (oi 42 .add 33 1<|om 33 42<|N) [42])) [31,32,33,34,8])<|q (R (of 43 1 4<|ol 44 43<|cl 45 227 [t 44]<|om 46 3<|om 47 6<|of 48 1 4<|os 48 45<|of 49 1 5<|os 49 46<|of 50 1 6<|os 50 47<|N) [3,6,43,44,45,46,47,48,49,50])<|q (R (oL 51 7 1<|oS 7 2 51<|N) [1,51])<|.ret
theorem ok145 : FT 145 52 ir145 [.cell 2 (some 7)] := .o Tryz.func145
end Go.Proofs
namespace Go.Proofs
open Go Av
mutual
theorem okV_fits : ∀ v : Val, fits (encV v) → okV v
 | .mk k i s t l f, h => by
  have h' : l.length ≤ 68719476736 ∧ f.length ≤ 68719476736 := (fits_V3 h).2;rw [encV_eq] at h;simp only [fits, fitsL, and_true, Val.list, Val.fields] at h;simp only [okV];exact ⟨h'.1, h'.2, okVs_fits l fun x hx => fitsL_iff.1 h.2.2.2.2.1.2 _ (List.mem_map.2 ⟨x, hx, rfl⟩), okFs_fits f fun x hx => fitsL_iff.1 h.2.2.2.2.2.2 _ (List.mem_map.2 ⟨x, hx, rfl⟩)⟩
theorem okVs_fits : ∀ l : List Val, (∀ x ∈ l, fits (encV x)) → okVs l
 | [], _ => by simp [okVs]
 | v :: r, h => by
  simp only [okVs];exact ⟨okV_fits v (h v (List.mem_cons_self)), okVs_fits r fun x hx => h x (List.mem_cons_of_mem _ hx)⟩
theorem okFs_fits : ∀ l : List Fld, (∀ x ∈ l, fits (encF x)) → okFs l
 | [], _ => by simp [okFs]
 | .mk n v :: r, h => by
  have h1 := h (.mk n v) (List.mem_cons_self);rw [encF_eq] at h1;have h2 : fits (encV v) := by
   rw [encV_eq];simp only [fits, fitsL, and_true, Fld.value] at h1 ⊢;exact h1.2
  simp only [okFs];exact ⟨okV_fits v h2, okFs_fits r fun x hx => h x (List.mem_cons_of_mem _ hx)⟩
end
theorem p54 (a : Val) : PT 54 [encV a] (.d (encV a)) := PCon.of_fits ok54.has fun h => walk54 a (okV_fits a (h _ (List.mem_cons_self)))
theorem p17 (a b : Val) : PT 17 [encV a, encV b] (.d (.bool (cmpV a b == 0))) := PCon.of_fits ok17.has fun h => walk17 a b (okV_fits a (h _ (List.mem_cons_self))) (okV_fits b (h _ (List.mem_cons_of_mem _ (List.mem_cons_self))))
theorem p278 (v : Val) (n : Str) : PT 278 [encV v, .str n] (.d (.int .i64 (ixN n v.fields))) := PCon.of_fits ok278.has fun h => walk278 v n (fits_V3 (h _ (List.mem_cons_self))).2.2
theorem p151 (s : Str) : PT 151 [.str s] (.d (.bool (nameS s))) := PCon.of_fits ok151.has fun h => walk151 s (by have := h _ (List.mem_cons_self); simpa [fits] using this)
theorem con162 (v : Nat) (xs : List Dat) (y : Dat) (hx : xs.length ≤ 1000000000) (hy : y.cells.length = 7) :
  KT 162 [.ms 1000 v, .d (.int .i64 xs.length), .d (.list 7 [y])] [(1000, .row v 7 xs)] (.ms 1000 (v + 1)) [(1000, .row (v + 1) 7 (xs ++ [y]))] := by
 refine ok162.co (k := true) (closed_puts (by simp [puts, put, closedH, objIn, idsInL, idsIn])) (by simp [hputs, upd, inT, idsIn, idsInL]) ?_;simp only [go_sem, ir162, Nat.reduceAdd, Nat.reduceEqDiff, Nat.reduceBEq, Nat.reduceLeDiff, reduceCtorEq, ↓reduceIte];refine ⟨⟨oM, oM⟩, fun h => ?_, fun h => by omega⟩;simp at h
theorem get1 {α : Type} (o : α) (j : Nat) : Av.get [(1000, o)] j = if j = 1000 then some o else none := by
 by_cases h : j = 1000
 ·subst h; simp [Av.get]
 ·have h' : ¬ 1000 = j := fun e => h e.symm
  simp [Av.get, h, h']
theorem ins_end (i v : Nat) (xs : List Dat) (y : Dat) (hx : xs.length ≤ 1000000000) (hy : y.cells.length = 7) :
  CT (.fn 162) [.ms i v, .d (.int .i64 xs.length), .d (.list 7 [y])] [(i, some (.row v 7 xs))] (.ms i (v + 1)) [(i, .row (v + 1) 7 (xs ++ [y]))] := by
 have hg : ∀ j o, Av.get [(1000, Obj.row v 7 xs)] j = some o → j = 1000 ∧ o = .row v 7 xs := fun j o h => by
  rw [get1] at h;split at h
  ·cases h; exact ⟨by assumption, rfl⟩
  ·cases h
 have hp : ∀ j o, hputs (Av.get [(1000, Obj.row v 7 xs)]) [(1000, Obj.row (v + 1) 7 (xs ++ [y]))] j = some o → j = 1000 ∧ o = .row (v + 1) 7 (xs ++ [y]) := fun j o h => by
  simp only [hputs, upd, get1] at h;split at h
  ·cases h; exact ⟨by assumption, rfl⟩
  ·cases h
 have hs : ∀ j, (hputs (Av.get [(1000, Obj.row v 7 xs)]) [(1000, Obj.row (v + 1) 7 (xs ++ [y]))] j).isSome = true → j = 1000 := fun j h => by
  obtain ⟨o, ho⟩ := Option.isSome_iff_exists.1 h;exact (hp j o ho).1
 have := (con162 v xs y hx hy).call (fun _ => i) (by
   intro j h;obtain ⟨o, ho⟩ := Option.isSome_iff_exists.1 h;have := (hg j o ho).1
   omega) ?_ ?_ (by intro j o h; obtain ⟨_, rfl⟩ := hg j o h; trivial) [] ?_ ?_ ?_
 ·exact this
 ·intro a b ha hb e;rw [hs a ha, hs b hb]
 ·intro c hc;simp only [List.mem_cons, List.not_mem_nil, or_false] at hc;rcases hc with rfl | rfl | rfl
  ·simp [inT, get1, idsIn]
  ·trivial
  ·trivial
 ·intro e he;simp only [List.mem_cons, List.not_mem_nil, or_false] at he;subst he;exact .inl (by simp [get1])
 ·intro j o h;obtain ⟨_, rfl⟩ := hp j o h;trivial
 ·simp [hputs, upd, inT, idsIn]
theorem ins_at (i v k : Nat) (xs : List Dat) (y : Dat) (hk : k ≤ xs.length) (hx : xs.length ≤ 1000000000) (hy : y.cells.length = 7) :
  CT (.fn 162) [.ms i v, .d (.int .i64 k), .d (.list 7 [y])] [(i, some (.row v 7 xs))] (.ms i (v + 1)) [(i, .row (v + 1) 7 (xs.take k ++ y :: xs.drop k))] := by
 by_cases h : k < xs.length
 ·exact ins_ok i v k xs y h hx hy
 ·obtain rfl : k = xs.length := oM;rw [List.take_length, List.drop_length];exact ins_end i v xs y hx hy
def idxF (n : Str) (l : List Fld) : Option Nat := l.findIdx? fun f => f.name == n
theorem ixN_eq (n : Str) (l : List Fld) : ixN n l = match idxF n l with | some k => (k : Int) | none => -1 := rfl
def fieldR (v : Val) (n : Str) : Val × Bool := if v.kind ≠ 9 then (zeroV, false) else match idxF n v.fields with
 | some i => ((v.fields[i]?.map Fld.value).getD zeroV, true)
 | none => (zeroV, false)
theorem walk201 (v : Val) (n : Str) : PT 201 [encV v, .str n] (.tup [.d (encV (fieldR v n).1), .d (.bool (fieldR v n).2)]) := by
 refine ok201.pc ?_;have c := (p278 v n).call trivial;have hbd := ixF_bd (q := fun f => f.name == n) (l := v.fields);generalize hR : fieldR v n = R;rw [encV_eq v] at c ⊢;unfold fieldR at hR;have hix := ixN_eq n v.fields;generalize hI : ixN n v.fields = I at *;rw [encV_eq R.1];simp only [go_sem, ir201, simprocAttr];refine wc c ?_;refine sq (decide (I < 0)) ?_ ?_
 ·exact zz trivial
 refine zz ?_;apply ik <;> intro h
 ·have : R = (zeroV, false) := by
   rw [← hR];by_cases hk : v.kind = 9
   ·rw [if_neg (sX hk)];cases e : idxF n v.fields with
    | none => rfl
    | some i =>
     rw [e] at hix;simp only at hix;simp [hk] at h;omega
   ·rw [if_pos hk]
  rw [this];rfl
 ·simp only [Bool.or_eq_false_iff, bne_eq_false_iff_eq, decide_eq_false_iff_not] at h;obtain ⟨h1, h2⟩ := h;rw [if_neg (sX h1)] at hR;cases e : idxF n v.fields with
  | none => rw [e] at hix; simp only at hix; omega
  | some i =>
   rw [e] at hix hR;simp only at hix hR;have hil : i < v.fields.length := by
    obtain ⟨h, _⟩ := List.findIdx?_eq_some_iff_getElem.1 e;exact h
   rw [List.getElem?_eq_getElem hil] at hR;subst hix;subst hR;have hx := nth_encF hil;have c2 := (p54 v.fields[i].value).call trivial;rw [encV_eq v.fields[i].value] at c2;refine zz24 ?_;refine ⟨⟨oM, oM⟩, wn c2 ?_⟩;exact zz trivial
def ixG (q : TFl → Bool) (l : List TFl) : Int := match l.findIdx? q with
 | some k => (k : Int)
 | none => -1
theorem walk203 {g : Nat} {cs : List Dat} {q : TFl → Bool} (hq : ∀ x, PT g [encG x, .ptr cs] (.d (.bool (q x)))) (l : List TFl) (hl : l.length ≤ 68719476736) :
  PT 203 [.list 11 (l.map encG), cloD g cs] (.d (.int .i64 (ixG q l))) := by
 refine ok203.pc ?_;refine zz39 ?_;refine wpc_loop (fun n s => ∃ k : Nat, k ≤ l.length ∧ n = l.length - k ∧ (∀ (j : Nat) (h1 : j < l.length), j < k → q l[j] = false) ∧
  s = ⟨[(0, .d (.list 11 (l.map encG))), (1, .d (cloD g cs)), (7, .d (.int .i64 l.length)), (8, .d (.int .i64 k))], []⟩) ?_ ?_
 ·exact ⟨_, _, Wk.refl _, 0, Nat.zero_le _, rfl, sP, rfl⟩
 ·rintro n s ⟨k, hk, rfl, hinv, rfl⟩;by_cases hlt : k < l.length
  ·have hx := nth_encG hlt;have hd := dT hlt;have hc := (hq l[k]).call trivial;rw [encG_eq] at hc;refine zz6 ?_;refine ⟨oM, wn hc ?_⟩;refine zz ?_;apply ik <;> intro hf
   ·have : l.findIdx? q = some k := by
     rw [List.findIdx?_eq_some_iff_getElem];exact ⟨hlt, hf, fun j hj => by rw [hinv j oM hj]; decide⟩
    simp only [ixG, this]
   ·refine ⟨l.length - (k + 1), _, oM, Wk.less ?_, k + 1, oM, rfl, ?_, rfl⟩
    ·exact zz7 trivial
    ·intro j h1 hj;by_cases e : j = k
     ·subst e; exact hf
     ·exact hinv j h1 oM
  ·have hd := dF hlt;refine zz5 ?_;have : l.findIdx? q = none := by
    rw [List.findIdx?_eq_none_iff];intro x hx;obtain ⟨j, hj, rfl⟩ := List.getElem_of_mem hx;exact hinv j hj oM
   simp only [ixG, this]
theorem walk221 (x : TFl) (n : Str) : PT 221 [encG x, .ptr [.str n]] (.d (.bool (x.name == n))) := by
 refine ok221.pc ?_;rw [encG_eq];simp only [go_sem, ir221, Nat.reduceAdd, Nat.reduceEqDiff, Nat.reduceBEq, Nat.reduceLeDiff, reduceCtorEq, ↓reduceIte];exact Nat.one_pos
theorem walk204 (x : TFl) (n : Str) : PT 204 [encG x, .ptr [.str n]] (.d (.bool (x.name == n))) := by
 refine ok204.pc ?_;rw [encG_eq];simp only [go_sem, ir204, Nat.reduceAdd, Nat.reduceEqDiff, Nat.reduceBEq, Nat.reduceLeDiff, reduceCtorEq, ↓reduceIte];exact Nat.one_pos
def idxG (n : Str) (l : List TFl) : Option Nat := l.findIdx? fun f => f.name == n
def ixM (n : Str) (l : List TFl) : Int := ixG (fun f => f.name == n) l
theorem ixM_eq (n : Str) (l : List TFl) : ixM n l = match idxG n l with | some k => (k : Int) | none => -1 := rfl
def ty0 : Typ := .mk 0 0 0 0 [] [] []
def tf0 : TFl := .mk 0 [] 0 ty0 []
theorem fits_T {t : Typ} (h : fits (encT t)) : t.words.length ≤ 68719476736 ∧ t.elem.length ≤ 68719476736 ∧ t.fields.length ≤ 68719476736 := by
 rw [encT_eq] at h;simp only [fits, fitsL, List.length_map, and_true] at h;exact ⟨h.2.2.2.2.1.1, h.2.2.2.2.2.1.1, h.2.2.2.2.2.2.1⟩
def tfR (t : Typ) (n : Str) : TFl × Bool := match idxG n t.fields with
 | some i => ((t.fields[i]?).getD tf0, true)
 | none => (tf0, false)
theorem walk102 (t : Typ) (n : Str) : PT 102 [encT t, .str n] (.tup [.d (encG (tfR t n).1), .d (.bool (tfR t n).2)]) := by
 refine PCon.of_fits ok102.has fun hfit => ?_
 have hl := (fits_T (hfit _ (List.mem_cons_self))).2.2;refine ok102.pc ?_;have c := CallOK.clo (ds := [.list 11 (t.fields.map encG)]) (walk203 (fun x => walk204 x n) t.fields hl) rfl 3;simp only [List.map_cons, List.map_nil, List.cons_append, List.nil_append] at c;have hix := ixM_eq n t.fields;unfold ixM at hix;generalize hR : tfR t n = R;unfold tfR at hR;rw [encT_eq, encG_eq R.1];simp only [go_sem, ir102, simprocAttr];refine wc c ?_;apply ik <;> intro h
 ·simp only [decide_eq_true_eq] at h;cases e : idxG n t.fields with
  | none =>
   rw [e] at hR;rw [← hR];rfl
  | some i => rw [e] at hix; simp only at hix; omega
 ·simp only [decide_eq_false_iff_not] at h;cases e : idxG n t.fields with
  | none => rw [e] at hix; simp only at hix; omega
  | some i =>
   have hil : i < t.fields.length := by
    obtain ⟨h, _⟩ := List.findIdx?_eq_some_iff_getElem.1 e;exact h
   rw [e] at hix hR;simp only at hix hR;rw [List.getElem?_eq_getElem hil] at hR;subst hR;have hx := nth_encG hil;rw [hix];refine zz24 ?_;exact ⟨oM, oM⟩
end Go.Proofs
namespace Av
open Go Go.RowKit
variable [Glb] [Rls]
theorem CallOK.of_callsN {P : Program} {f : Nat} {ds : List Dat} {x : Dat} (hh : Has P f)
  (h : ∀ (A : Nat → Prop) (w : World) (vs : Array Value), ds.length = vs.size → (∀ (i : Nat) d u, ds[i]? = some d → vs[i]? = some u → Rep A w d u) →
   Calls P f vs w fun e w' => ∃ u, e = .returned u ∧ Below w.heap.size w w' ∧ Rep (fun b => A b ∨ (w.heap.size ≤ b ∧ b < w'.heap.size)) w' x u) : CallOK P f (ds.map .d) [] (.d x) [] := by
 intro β A w H vs _ hc hvs;have hl : ds.length = vs.size := sX hvs.1;refine .inl ⟨hh, (h A w vs hl ?_).mono ?_⟩
 ·intro i d u hd hu;have := hvs.2 i (.d d) u (by rw [List.getElem?_map, hd]; rfl) hu;exact this.of_d
 ·rintro e w' ⟨u, rfl, hb, hr⟩;refine ⟨u, rfl, β, fun b => A b ∨ (w.heap.size ≤ b ∧ b < w'.heap.size), ?_, .d _ _ hr⟩;refine Stp.new hc hb.os hb.tape hb.output hb.size hb.block (fun _ h => .inl h) ?_ ?_
  ·rintro b (h | h)
   ·exact .inl h
   ·exact .inr h.1
  ·rintro b (h | h)
   ·exact Nat.lt_of_lt_of_le (hc.old b h) hb.size
   ·exact h.2
theorem rep_owns {A : Nat → Prop} {w w' : World} {e : TypeId} {v : Value} {n : Nat} {ss : List (List UInt8)} (hn : n = ss.length) (hs : ∀ s ∈ ss, s.length ≤ 68719476736) (hl : ss.length ≤ 68719476736)
  (h : w'.ownsRow w.heap.size e 1 v n (ss.map fun s => Value.string ⟨s.toArray⟩)) : Rep (fun b => A b ∨ (w.heap.size ≤ b ∧ b < w'.heap.size)) w' (.list 1 (ss.map .str)) v := by
 obtain ⟨h1, ⟨rfl, h0⟩ | ⟨g, cap, cur, rfl, hg, hh, hcap, _, hcur, htake⟩⟩ := h
 ·have : ss = [] := by cases ss with
   | nil => rfl
   | cons a r => simp at hn; omega
  subst this;exact .emp 1 none 0
 ·have hlt : g < w'.heap.size := (Array.getElem?_eq_some_iff.1 hh).1;refine .list 1 _ g 0 n cap (ss.map fun s => Value.string ⟨s.toArray⟩) (sX hn) (.inr ⟨hg, hlt⟩) sO (sX hl) ?_ ?_ ?_ ?_ ?_
  ·intro u hu; obtain ⟨s, _, rfl⟩ := List.mem_map.1 hu; rfl
  ·intro x hx; obtain ⟨s, _, rfl⟩ := List.mem_map.1 hx; rfl
  ·intro i u hu;have : (cur.toList.take (n * 1))[i]? = some u := by rw [htake]; exact hu
   rw [List.getElem?_take] at this;split at this
   ·simp only [World.cell?, hh, Nat.zero_add];simpa using this
   ·cases this
  ·rw [flat_str]; simp
  ·intro i c u hc hu;rw [flat_str, List.getElem?_map] at hc;rw [List.getElem?_map] at hu;cases q : ss[i]? with
   | none => rw [q] at hc; cases hc
   | some s =>
    rw [q] at hc hu;cases hc;cases hu;exact .str s (hs s (List.mem_of_getElem? q))
end Av
namespace Go.Proofs
open Go.Shelf
def Tryz.laysClone_ren : Go.Shelf.Ren := ⟨fun | 16 => 227 | n => n, fun | 24 => 22 | 9 => 9 | 4 => 4 | n => n, fun | n => n⟩
theorem Tryz.laysClone : Go.Proofs.Lays2.n16 Tryz.prog Tryz.laysClone_ren := {
 mixed := kR
 f16 := Tryz.func227.trans (congrArg some kR)
 t4 := Tryz.underlying4
 a4 := Tryz.isAgg4
 z4 := Tryz.sizeOf4
 v4 := Tryz.zeroValue4
 t9 := Tryz.underlying9
 a9 := Tryz.isAgg9
 z9 := Tryz.sizeOf9
 v9 := Tryz.zeroValue9
 t24 := Tryz.underlying22
 a24 := Tryz.isAgg22
 z24 := Tryz.sizeOf22
 v24 := Tryz.zeroValue22
 i9 := by kernel_rfl }
end Go.Proofs
namespace Go.Proofs
open Go Av Go.RowKit
theorem clone196 (ss : List Str) : CT 227 [.d (.list 1 (ss.map .str))] [] (.d (.list 1 (ss.map .str))) [] := by
 refine CallOK.of_callsN (ds := [.list 1 (ss.map .str)]) ⟨_, Tryz.func227, kR, kR⟩ fun A w vs hl hv => ?_
 obtain ⟨v, rfl⟩ := size_one (sX hl);have hr := hv 0 _ v rfl rfl;have hf := hr.fits;simp only [fits, List.length_map] at hf;have hfl : (flat (ss.map Dat.str)) = ss.map .str := flat_str ss;have hs : ∀ s ∈ ss, s.length ≤ 68719476736 := fun s h => fitsL_iff.1 hf.2 (.str s) (List.mem_map.2 ⟨s, h, rfl⟩)
 generalize hD : ss.map Dat.str = D at hr hfl;cases hr with
 | emp _ a cap =>
  obtain rfl : ss = [] := List.map_eq_nil_iff.1 hD;cases a with
  | none => exact (Any.slices_Clone_string_nil Tryz.laysClone 0 cap w).mono fun e w' ⟨h1, h2⟩ => ⟨_, h1, by rw [h2]; exact Below.refl _ _, .emp 1 none 0⟩
  | some a =>
   refine (Any.slices_Clone_string_zero Tryz.laysClone a cap w).mono ?_;rintro e w' ⟨v', rfl, h, _, hb⟩;exact ⟨_, rfl, hb, rep_owns (ss := []) rfl sP sP h⟩
 | list _ _ b o n cap vs hn hA hcap hc h1 hsz hh hvl hvv =>
  subst hD;have hlen : n = ss.length := sX hn;have hcell : ∀ j (h : j < ss.length), vs[j]? = some (.string ⟨ss[j].toArray⟩) := by
   intro j h;rw [flat_str] at hvl;have hj : j < vs.length := by simp at hvl; omega
   have := hvv j (.str ss[j]) vs[j] (by rw [flat_str]; simp [h]) (by simp [hj]);rw [List.getElem?_eq_getElem hj];generalize vs[j] = z at this;cases this;rfl
  refine (Any.slices_Clone_string Tryz.laysClone b o n cap (ss.map fun s => ⟨s.toArray⟩) w sO oM ?_).mono ?_
  ·intro j hj;have hj' : j < ss.length := sX hj;have := hh j _ (hcell j hj');rw [this];simp [hj']
  ·rintro e w' ⟨v', rfl, h, _, hb⟩;rw [List.take_of_length_le sO, List.map_map] at h;exact ⟨_, rfl, hb, rep_owns hlen hs hf.1 h⟩
end Go.Proofs
namespace Av
open Go
variable [Glb] [Rls]
theorem PCon.callClo {P : Program} {f g : Nat} {d : Dat} {cs : List Dat} {r : Av} (h : PCon P f [d, cloD g cs] r) (hr : pureR r) (i : Nat) :
  CallOK P f [.d d, .clo (.func g) [] [.ref i 0]] [(i, some (.box (cs.map .d)))] r [(i, .fbox cs)] := by
 intro β A w H vs hT hc hvs;have hi : H i = some (.box (cs.map .d)) := hT _ (List.mem_singleton.2 rfl);have st := Stp.freezeBox hc hi (allD_map cs);obtain ⟨x1, x2, rfl⟩ : ∃ x y, vs = #[x, y] := by
  have h2 : 2 = vs.size := sX hvs.1;refine ⟨vs[0], vs[1], ?_⟩;apply Array.ext
  ·simp [← h2]
  ·intro i h1 h2;have : i = 0 ∨ i = 1 := oM;rcases this with rfl | rfl <;> rfl
 have v1 := st.vals _ _ (hvs.2 0 _ x1 rfl rfl);have v2 := st.vals _ _ (hvs.2 1 _ x2 rfl rfl);have hv2 : Rep (fun k => A k ∨ β i = some k) w (cloD g cs) x2 := by
  cases v2 with
  | clo _ _ _ a1 a2 l1 l2 hf hvv =>
   refine .fn _ _ _ a1 a2 l1 (sX l2) (by intro j c v hj; cases hj) ?_;intro k c v hk hkv
   match k, hk with
   | 0, hk =>
    cases hk;have hrf := hvv 0 _ v rfl hkv;cases hrf with
    | ref _ _ _ _ _ hu g0 g1 g2 =>
     have := g2 cs sU;simpa using this
   | k + 1, hk => cases hk
 have := h.call hr β _ w _ #[x1, x2] sP st.core ⟨rfl, fun k c u h1 h2 => by
  match k, h1, h2 with
  | 0, h1, h2 => cases h1; cases h2; exact v1
  | 1, h1, h2 => cases h1; cases h2; exact .d _ _ hv2
  | k + 2, h1, h2 => cases h1⟩
 rcases this with ⟨a1, a2⟩ | ⟨u, w', a1, β', A', a2, a3⟩
 ·refine .inl ⟨a1, a2.mono ?_⟩;rintro e w' ⟨u, rfl, β', A', b1, b2⟩;exact ⟨u, rfl, β', A', st.trans b1, b2⟩
 ·exact .inr ⟨u, w', a1, β', A', st.trans a2, a3⟩
theorem PCon.borrowT {P : Program} {f : Nat} {ds : List Dat} {a b : Dat} (h : PCon P f (ds.map Dat.canon) (.tup [.d a, .d b])) (ha : scalar a = true) (hb : scalar b = true) {args : List Av} {T : List (Nat × Option Obj)} {p : Prop} {u : List (Nat × Obj)}
  (hd : ∀ H : Heap, (∀ e ∈ T, H e.1 = e.2) → datumAll H args = some (p, ds, u)) (hp : p) : CallOK P f args T (.tup [.d a, .d b]) [] := by
 intro β A w H vs hT hc hvs;obtain ⟨A', st, hl, hrep, hA⟩ := datumAll_ok hc (hd H hT) hp (us := vs.toList) (sX hvs.1) (fun i c v h1 h2 => hvs.2 i c v h1 (sX h2));have hc0 : Core β A' w (get []) := ⟨(by intro i o hi; cases hi), (by intro i j o o' b hi; cases hi), (by intro i o b hi; cases hi), st.core.old, st.core.glob⟩;refine .inl ⟨h.1, (h.2 β A' w vs hc0 ⟨by simp at hl ⊢; omega, ?_⟩).mono ?_⟩
 ·intro i c v h1 h2;rw [List.map_map, List.getElem?_map] at h1;cases e : ds[i]? with
  | none => simp [e] at h1
  | some x =>
   simp only [e, Option.map_some, Option.some.injEq, Function.comp] at h1;subst h1;exact .d _ _ (hrep i x v e (sX h2)).canon
 ·rintro e w' ⟨v, β1, A1, rfl, hsince, hc1, hv⟩;obtain ⟨s1, s2, s3, s4, s5, sl, s6, s7, s8⟩ := hsince;dsimp only at s1 s2 s3 s4 s5 sl;have hsame : ∀ b, b < w.heap.size → w'.heap[b]? = w.heap[b]? := fun b hb => s5 b hb (by intro i o hi; cases hi)
  have hst : Stp β A w H β A w' H := Stp.new hc s1 s2 s3 s4 hsame (fun _ h => h) (fun _ h => .inl h) (fun b hb => by have := hc.old b hb; omega);refine ⟨v, rfl, β, A, hst, ?_⟩;cases hv with
  | tup _ arr hl hvv =>
   refine .tup _ _ hl fun i c u h1 h2 => ?_
   have h3 := hvv i c u h1 h2
   match i, h1 with
   | 0, h1 => cases h1; exact .d _ _ (h3.of_d.scalar ha)
   | 1, h1 => cases h1; exact .d _ _ (h3.of_d.scalar hb)
   | i + 2, h1 => cases h1
end Av
namespace Go.Proofs
open Go Av
theorem step226 (g : TFl) (h : PT 145 [encT g.type] (.d (encT g.type))) : PT 226 [encG g] (.d (encG g)) := by
 refine PCon.of_fits ok226.has fun hfit => ?_
 have hdl : g.dflt.length ≤ 68719476736 := by
  have := hfit _ (List.mem_cons_self);rw [encG_eq] at this;simp only [fits, fitsL, List.length_map, and_true] at this;exact this.2.2.2.2.2.2.2.2.2.2.1
 refine ok226.pc ?_;have c := h.call trivial;rw [encT_eq] at c;rw [encG_eq];simp only [go_sem, ir226, simprocAttr];refine wc c ?_;refine ⟨⟨Int.le_refl _, sP, sO⟩, ?_⟩;refine wpc_loop (fun n s => ∃ k : Nat, k ≤ g.dflt.length ∧ n = g.dflt.length - k ∧
  s = ⟨[(1, .ref 1 0), (2, .ref 2 0), (3, .ms 13 k), (15, .d (.list 6 (g.dflt.map encV))), (16, .d (.int .i64 g.dflt.length)), (17, .d (.int .i64 k))],
   [(1, .box [.d (.int .i64 g.number), .d (.str g.name), .d (.int .i64 g.need), .d (.int .i64 g.type.kind), .d (.int .i64 g.type.min), .d (.int .i64 g.type.max), .d (.int .i64 g.type.scale), .d (.list 1 (g.type.words.map .str)), .d (.list 7 (g.type.elem.map encT)), .d (.list 11 (g.type.fields.map encG)), .d (.list 6 (g.dflt.map encV))]), (2, .box [.d (.int .i64 0), .d (.str []), .d (.int .i64 0), .d (.int .i64 0), .d (.int .i64 0), .d (.int .i64 0), .d (.int .i64 0), .d (.nil 1), .d (.nil 7), .d (.nil 11), .d (.nil 6)]), (13, .row k 6 ((g.dflt.take k).map encV))]⟩) ?_ ?_
 ·exact ⟨_, _, Wk.refl _, 0, Nat.zero_le _, rfl, sP⟩
 ·rintro n s ⟨k, hk, rfl, rfl⟩;by_cases hlt : k < g.dflt.length
  ·have hx := nth_encV hlt;have hd := dT hlt;have hc := (p54 g.dflt[k]).call trivial;rw [encV_eq] at hc;refine zz6 ?_;refine ⟨oM, wn hc ?_⟩;refine zz ?_;refine ⟨sP, sO, ?_⟩;refine ⟨g.dflt.length - (k + 1), _, oM, Wk.less ?_, k + 1, oM, rfl, rfl⟩;rw [List.take_succ_eq_append_getElem hlt, List.map_append];simp only [go_sem, wrap64s k oM, List.map_cons, List.map_nil, encV_eq g.dflt[k], Nat.reduceAdd, Nat.reduceEqDiff, Nat.reduceBEq, Nat.reduceLeDiff, reduceCtorEq, ↓reduceIte]
  ·have hd := dF hlt;obtain rfl : k = g.dflt.length := oM;exact zz21 trivial
theorem step145 (t : Typ) (h1 : ∀ x ∈ t.elem, PT 145 [encT x] (.d (encT x))) (h2 : ∀ g ∈ t.fields, PT 226 [encG g] (.d (encG g))) : PT 145 [encT t] (.d (encT t)) := by
 refine PCon.of_fits ok145.has fun hfit => ?_
 obtain ⟨f1, f2, f3⟩ := fits_T (hfit _ (List.mem_cons_self));refine ok145.pc ?_;rw [encT_eq];simp only [go_sem, ir145, Nat.reduceAdd, Nat.reduceEqDiff, Nat.reduceBEq, Nat.reduceLeDiff, reduceCtorEq, ↓reduceIte];refine ⟨⟨Int.le_refl _, sP, sO⟩, ?_⟩;refine wpc_loop (fun n s => ∃ k : Nat, k ≤ t.elem.length ∧ n = t.elem.length - k ∧
  s = ⟨[(1, .ref 1 0), (2, .ref 2 0), (3, .ms 12 k), (14, .d (.list 7 (t.elem.map encT))), (15, .d (.int .i64 t.elem.length)), (16, .d (.int .i64 k))],
   [(1, .box [.d (.int .i64 t.kind), .d (.int .i64 t.min), .d (.int .i64 t.max), .d (.int .i64 t.scale), .d (.list 1 (t.words.map .str)), .d (.list 7 (t.elem.map encT)), .d (.list 11 (t.fields.map encG))]), (2, .box [.d (.int .i64 0), .d (.int .i64 0), .d (.int .i64 0), .d (.int .i64 0), .d (.nil 1), .d (.nil 7), .d (.nil 11)]), (12, .row k 7 ((t.elem.take k).map encT))]⟩) ?_ ?_
 ·exact ⟨_, _, Wk.refl _, 0, Nat.zero_le _, rfl, sP⟩
 ·rintro n s ⟨k, hk, rfl, rfl⟩;by_cases hlt : k < t.elem.length
  ·have hx := nth_encT hlt;have hd := dT hlt;have hc := (h1 t.elem[k] (List.getElem_mem _)).call trivial;rw [encT_eq] at hc;refine zz6 ?_;refine ⟨oM, wn hc ?_⟩;refine zz ?_;refine ⟨sP, sO, ?_⟩;refine ⟨t.elem.length - (k + 1), _, oM, Wk.less ?_, k + 1, oM, rfl, rfl⟩;rw [List.take_succ_eq_append_getElem hlt, List.map_append];simp only [go_sem, wrap64s k oM, List.map_cons, List.map_nil, encT_eq t.elem[k], Nat.reduceAdd, Nat.reduceEqDiff, Nat.reduceBEq, Nat.reduceLeDiff, reduceCtorEq, ↓reduceIte]
  ·have hd := dF hlt;obtain rfl : k = t.elem.length := oM;refine zz21 ?_;refine ⟨⟨Int.le_refl _, sP, sO⟩, ?_⟩;refine wpc_loop (fun n s => ∃ k : Nat, k ≤ t.fields.length ∧ n = t.fields.length - k ∧
    s = ⟨[(1, .ref 1 0), (2, .ref 2 0), (3, .ms 12 t.elem.length), (6, .ms 29 k), (31, .d (.list 11 (t.fields.map encG))), (32, .d (.int .i64 t.fields.length)), (33, .d (.int .i64 k))],
     [(1, .box [.d (.int .i64 t.kind), .d (.int .i64 t.min), .d (.int .i64 t.max), .d (.int .i64 t.scale), .d (.list 1 (t.words.map .str)), .d (.list 7 (t.elem.map encT)), .d (.list 11 (t.fields.map encG))]), (2, .box [.d (.int .i64 0), .d (.int .i64 0), .d (.int .i64 0), .d (.int .i64 0), .d (.nil 1), .d (.nil 7), .d (.nil 11)]), (12, .row t.elem.length 7 (t.elem.map encT)), (29, .row k 11 ((t.fields.take k).map encG))]⟩) ?_ ?_
   ·refine ⟨_, _, Wk.less ?_, 0, Nat.zero_le _, rfl, rfl⟩;simp [go_sem]
   ·rintro n s ⟨k, hk, rfl, rfl⟩;by_cases hlt : k < t.fields.length
    ·have hx := nth_encG hlt;have hd := dT hlt;have hc := (h2 t.fields[k] (List.getElem_mem _)).call trivial;rw [encG_eq] at hc;refine zz6 ?_;refine ⟨oM, wn hc ?_⟩;refine zz ?_;refine ⟨sP, sO, ?_⟩;refine ⟨t.fields.length - (k + 1), _, oM, Wk.less ?_, k + 1, oM, rfl, rfl⟩;rw [List.take_succ_eq_append_getElem hlt, List.map_append];simp only [go_sem, wrap64s k oM, List.map_cons, List.map_nil, encG_eq t.fields[k], Nat.reduceAdd, Nat.reduceEqDiff, Nat.reduceBEq, Nat.reduceLeDiff, reduceCtorEq, ↓reduceIte]
    ·have hd := dF hlt;obtain rfl : k = t.fields.length := oM;refine zz21 ?_;refine wc (clone196 t.words) trivial
mutual
theorem p145 : ∀ t : Typ, PT 145 [encT t] (.d (encT t))
 | .mk k a b s w e f => step145 _ (p145s e) (p226s f)
theorem p145s : ∀ l : List Typ, ∀ x ∈ l, PT 145 [encT x] (.d (encT x))
 | [], x, h => by cases h
 | t :: r, x, h => by
  have h0 := p145 t;have h1 := p145s r x;rcases List.mem_cons.1 h with e | h
  ·rw [e]; exact h0
  ·exact h1 h
theorem p226 : ∀ g : TFl, PT 226 [encG g] (.d (encG g))
 | .mk n m d t v => step226 _ (p145 t)
theorem p226s : ∀ l : List TFl, ∀ x ∈ l, PT 226 [encG x] (.d (encG x))
 | [], x, h => by cases h
 | t :: r, x, h => by
  have h0 := p226 t;have h1 := p226s r x;rcases List.mem_cons.1 h with e | h
  ·rw [e]; exact h0
  ·exact h1 h
end
def fldR (t : Typ) (n : Str) : TFl × Bool := if t.kind ≠ 9 ∧ t.kind ≠ 10 then (tf0, false) else tfR t n
theorem fnd_at {cs : List Dat} {g : Nat} (n : Str) (t : Typ) (hq : ∀ x, PT g [encG x, .ptr cs] (.d (.bool (x.name == n)))) : PT 220 [encT t, cloD g cs] (.tup [.d (encG (fldR t n).1), .d (.bool (fldR t n).2)]) := by
 refine PCon.of_fits ok220.has fun hfit => ?_
 have hl := (fits_T (hfit _ (List.mem_cons_self))).2.2;refine ok220.pc ?_;have c := (walk203 hq t.fields hl).call trivial;have hix := ixM_eq n t.fields;unfold ixM at hix;generalize hR : fldR t n = R;unfold fldR tfR at hR;rw [encT_eq, encG_eq R.1];simp only [go_sem, ir220, simprocAttr];refine sq (t.kind != 10) ?_ ?_
 ·exact zz trivial
 refine zz ?_;apply ik <;> intro h
 ·rw [if_pos (sX h)] at hR;rw [← hR];rfl
 rw [if_neg (sX h)] at hR;refine wc c ?_;apply ik <;> intro h
 ·simp only [decide_eq_true_eq] at h;cases e : idxG n t.fields with
  | none =>
   rw [e] at hR;rw [← hR];rfl
  | some i => rw [e] at hix; simp only at hix; omega
 ·simp only [decide_eq_false_iff_not] at h;cases e : idxG n t.fields with
  | none => rw [e] at hix; simp only at hix; omega
  | some i =>
   have hil : i < t.fields.length := by
    obtain ⟨h, _⟩ := List.findIdx?_eq_some_iff_getElem.1 e;exact h
   rw [e] at hix hR;simp only at hix hR;rw [List.getElem?_eq_getElem hil] at hR;subst hR;have hx := nth_encG hil;have c2 := (p226 t.fields[i]).call trivial;rw [encG_eq] at c2;rw [hix];refine zz24 ?_;refine ⟨⟨oM, oM⟩, wn c2 ?_⟩;exact zz trivial
theorem walk131 (t : Typ) (n : Str) : PT 131 [encT t, .str n] (.tup [.d (encG (fldR t n).1), .d (.bool (fldR t n).2)]) := by
 refine ok131.pc ?_;have c := (fnd_at n t fun x => walk221 x n).callClo (by simp [pureR]) 3;generalize fldR t n = R at *;rw [encT_eq, encG_eq] at c;rw [encT_eq, encG_eq];simp only [go_sem, ir131, simprocAttr];refine wc c trivial
abbrev bxV (v : Val) : Av.Obj := .box [.d (.int .i64 v.kind), .d (.int .i64 v.int), .d (.int .i64 v.scale), .d (.str v.text), .d (.list 6 (v.list.map encV)), .d (.list 7 (v.fields.map encF))]
abbrev bxT (T : Typ) : Av.Obj := .box [.d (.int .i64 T.kind), .d (.int .i64 T.min), .d (.int .i64 T.max), .d (.int .i64 T.scale), .d (.list 1 (T.words.map .str)), .d (.list 7 (T.elem.map encT)), .d (.list 11 (T.fields.map encG))]
def sortedN : List Fld → Bool
 | a :: b :: r => strLt a.name b.name && sortedN (b :: r)
 | _ => true
def zI (v : Val) : Bool := v.int == 0
def zS (v : Val) : Bool := v.scale == 0
def zT (v : Val) : Bool := v.text == []
def zL (v : Val) : Bool := ((v.list.length : Nat) : Int) == 0
def zF' (v : Val) : Bool := ((v.fields.length : Nat) : Int) == 0
def formB (v : Val) : Bool :=
 if v.kind == 1 then !(v.int != 0 && v.int != 1) && (((zS v && zT v) && zL v) && zF' v)
 else if v.kind == 2 then (((zS v && zT v) && zL v) && zF' v)
 else if v.kind == 6 then (((zS v && zT v) && zL v) && zF' v)
 else if v.kind == 7 then (((zS v && zT v) && zL v) && zF' v)
 else if v.kind == 3 then ((zT v && zL v) && zF' v)
 else if v.kind == 4 then validS v.text && (((zI v && zS v) && zL v) && zF' v)
 else if v.kind == 5 then (((zI v && zS v) && zL v) && zF' v)
 else if v.kind == 8 then (((zI v && zS v) && zT v) && zF' v)
 else if v.kind == 9 then sortedN v.fields && (((zI v && zS v) && zT v) && zL v)
 else if v.kind == 10 then !(((v.list.length : Nat) : Int) != 1) && ((zI v && zS v) && zF' v)
 else ((((zI v && zS v) && zT v) && zL v) && zF' v)
theorem walk97 (v : Val) : PT 97 [encV v] (.d (.bool (formB v))) := by
 refine PCon.of_fits ok97.has fun hfit => ?_
 have hfl := (fits_V3 (hfit _ (List.mem_cons_self))).2.2;refine ok97.pc ?_;have c198 := (walk198 v.text).call trivial;generalize hR : formB v = R;unfold formB zI zS zT zL zF' at hR;rw [encV_eq v];simp only [go_sem, ir97, Bool.not_true, Bool.not_false, Bool.true_and, Bool.false_and, Bool.and_true, Bool.and_false, Nat.reduceAdd, Nat.reduceEqDiff, Nat.reduceBEq, Nat.reduceLeDiff, Int.reduceBEq, reduceCtorEq, ↓reduceIte];apply ik <;> intro h1
 ·rw [if_pos h1] at hR;refine sq (v.int != 1) ?_ ?_
  ·exact zz2 trivial
  refine zz2 ?_;apply ik <;> intro h
  ·rw [h] at hR;rw [← hR];rfl
  rw [h, Bool.not_false, Bool.true_and] at hR
  try refine zz2 ?_
  refine sq (v.text == []) ?_ ?_
  ·exact zz2 trivial
  refine zz2 ?_;refine sq (((v.list.length : Nat) : Int) == 0) ?_ ?_
  ·exact zz2 trivial
  refine zz2 ?_;refine sq (((v.fields.length : Nat) : Int) == 0) ?_ ?_
  ·exact zz2 trivial
  refine zz2 ?_
  try rw [← hR]
  try simp
 rw [if_neg (nF h1)] at hR;apply ik <;> intro h2
 ·rw [if_pos h2] at hR
  try simp only [h2, iteK_true]
  try refine zz40 ?_
  refine sq (v.text == []) ?_ ?_
  ·exact zz2 trivial
  refine zz2 ?_;refine sq (((v.list.length : Nat) : Int) == 0) ?_ ?_
  ·exact zz2 trivial
  refine zz2 ?_;refine sq (((v.fields.length : Nat) : Int) == 0) ?_ ?_
  ·exact zz2 trivial
  refine zz2 ?_
  try rw [← hR]
  try simp
 rw [if_neg (nF h2)] at hR
 try refine zz40 ?_
 apply ik <;> intro h6
 ·rw [if_pos h6] at hR
  try simp only [h6, iteK_true]
  try refine zz41 ?_
  refine sq (v.text == []) ?_ ?_
  ·exact zz2 trivial
  refine zz2 ?_;refine sq (((v.list.length : Nat) : Int) == 0) ?_ ?_
  ·exact zz2 trivial
  refine zz2 ?_;refine sq (((v.fields.length : Nat) : Int) == 0) ?_ ?_
  ·exact zz2 trivial
  refine zz2 ?_
  try rw [← hR]
  try simp
 rw [if_neg (nF h6)] at hR
 try refine zz41 ?_
 apply ik <;> intro h7
 ·rw [if_pos h7] at hR
  try simp only [h7, iteK_true]
  try refine zz42 ?_
  refine sq (v.text == []) ?_ ?_
  ·exact zz2 trivial
  refine zz2 ?_;refine sq (((v.list.length : Nat) : Int) == 0) ?_ ?_
  ·exact zz2 trivial
  refine zz2 ?_;refine sq (((v.fields.length : Nat) : Int) == 0) ?_ ?_
  ·exact zz2 trivial
  refine zz2 ?_
  try rw [← hR]
  try simp
 rw [if_neg (nF h7)] at hR
 try refine zz42 ?_
 apply ik <;> intro h3
 ·rw [if_pos h3] at hR;refine sq (((v.list.length : Nat) : Int) == 0) ?_ ?_
  ·exact zz2 trivial
  refine zz2 ?_;refine sq (((v.fields.length : Nat) : Int) == 0) ?_ ?_
  ·exact zz2 trivial
  refine zz2 ?_
  try rw [← hR]
  try simp
 rw [if_neg (nF h3)] at hR;apply ik <;> intro h4
 ·rw [if_pos h4] at hR;refine wd c198 ?_;apply ik <;> intro h
  ·rw [show validS v.text = false by simpa using h] at hR;rw [← hR];rfl
  rw [show validS v.text = true by simpa using h, Bool.true_and] at hR
  try refine zz2 ?_
  refine sq (v.scale == 0) ?_ ?_
  ·exact zz2 trivial
  refine zz2 ?_;refine sq (true) ?_ ?_
  ·exact zz2 trivial
  refine zz2 ?_;refine sq (((v.list.length : Nat) : Int) == 0) ?_ ?_
  ·exact zz2 trivial
  refine zz2 ?_;refine sq (((v.fields.length : Nat) : Int) == 0) ?_ ?_
  ·exact zz2 trivial
  refine zz2 ?_
  try rw [← hR]
  try simp
 rw [if_neg (nF h4)] at hR;apply ik <;> intro h5
 ·rw [if_pos h5] at hR;refine sq (v.scale == 0) ?_ ?_
  ·exact zz2 trivial
  refine zz2 ?_;refine sq (true) ?_ ?_
  ·exact zz2 trivial
  refine zz2 ?_;refine sq (((v.list.length : Nat) : Int) == 0) ?_ ?_
  ·exact zz2 trivial
  refine zz2 ?_;refine sq (((v.fields.length : Nat) : Int) == 0) ?_ ?_
  ·exact zz2 trivial
  refine zz2 ?_
  try rw [← hR]
  try simp
 rw [if_neg (nF h5)] at hR;apply ik <;> intro h8
 ·rw [if_pos h8] at hR;refine sq (v.scale == 0) ?_ ?_
  ·exact zz2 trivial
  refine zz2 ?_;refine sq (v.text == []) ?_ ?_
  ·exact zz2 trivial
  refine zz2 ?_;refine sq (((0 : Nat) : Int) == 0) ?_ ?_
  ·exact zz2 trivial
  refine zz2 ?_;refine sq (((v.fields.length : Nat) : Int) == 0) ?_ ?_
  ·exact zz2 trivial
  refine zz2 ?_
  try rw [← hR]
  try simp
 rw [if_neg (nF h8)] at hR;apply ik <;> intro h9
 ·rw [if_pos h9] at hR;refine wpc_loop (fun n s => ∃ k : Nat, 1 ≤ k ∧ n = v.fields.length + 1 - k ∧ (k ≤ v.fields.length ∨ k = 1) ∧ sortedN v.fields = sortedN (v.fields.drop (k - 1)) ∧
   s = ⟨[(1, .ref 1 0), (3, .ref 3 0), (4, .d (.int .i64 k))], [(1, bxV v), (3, bxV v)]⟩) ?_ ?_
  ·exact ⟨_, _, Wk.less (by simp [go_sem, bxV]), 1, Nat.le_refl _, rfl, .inr rfl, rfl, rfl⟩
  ·rintro n s ⟨k, hk1, rfl, hk2, hs, rfl⟩;simp only [bxV];by_cases hlt : k < v.fields.length
   ·have hlt1 : k - 1 < v.fields.length := oM;have hx := nth_encF hlt;have hx1 := nth_encF hlt1;have hd := dT hlt;have hw : IntKind.i64.wrap ((k : Int) - 1) = ((k - 1 : Nat) : Int) := by rw [IntKind.wrap_i64]; omega
    have hdr : v.fields.drop (k - 1) = v.fields[k - 1] :: v.fields[k] :: v.fields.drop (k + 1) := by
     rw [List.drop_eq_getElem_cons hlt1, show k - 1 + 1 = k by omega, List.drop_eq_getElem_cons hlt]
    rw [hdr, sortedN] at hs;simp only [go_sem, hx, hx1, hd, hw, Int.toNat_natCast, List.length_map, Bool.not_true, Bool.not_false, Bool.true_and, Bool.false_and, Bool.and_true, Bool.and_false, Nat.reduceAdd, Nat.reduceEqDiff, Nat.reduceBEq, Nat.reduceLeDiff, Int.reduceBEq, reduceCtorEq, ↓reduceIte];refine ⟨oM, oM, oM, oM, ?_⟩;apply ik <;> intro h
    ·rw [show strLt v.fields[k - 1].name v.fields[k].name = false by simpa using h, Bool.false_and] at hs;rw [hs, Bool.false_and] at hR;rw [← hR]
    ·rw [show strLt v.fields[k - 1].name v.fields[k].name = true by simpa using h, Bool.true_and, ← List.drop_eq_getElem_cons hlt] at hs;refine ⟨v.fields.length + 1 - (k + 1), _, oM, Wk.less ?_, k + 1, oM, rfl, .inl oM, hs, rfl⟩;simp only [go_sem, bxV, wrap64s k oM, Bool.not_true, Bool.not_false, Bool.true_and, Bool.false_and, Bool.and_true, Bool.and_false, Nat.reduceAdd, Nat.reduceEqDiff, Nat.reduceBEq, Nat.reduceLeDiff, Int.reduceBEq, reduceCtorEq, ↓reduceIte]
   ·have hd := dF hlt;have hs1 : sortedN v.fields = true := by
     rw [hs];have : (v.fields.drop (k - 1)).length ≤ 1 := sO
     match v.fields.drop (k - 1), this with
     | [], _ => rfl
     | [a], _ => rfl
    rw [hs1, Bool.true_and] at hR;simp only [go_sem, hd, List.length_map, Bool.not_true, Bool.not_false, Bool.true_and, Bool.false_and, Bool.and_true, Bool.and_false, Nat.reduceAdd, Nat.reduceEqDiff, Nat.reduceBEq, Nat.reduceLeDiff, Int.reduceBEq, reduceCtorEq, ↓reduceIte];refine sq (v.scale == 0) ?_ ?_
    ·exact zz2 trivial
    refine zz2 ?_;refine sq (v.text == []) ?_ ?_
    ·exact zz2 trivial
    refine zz2 ?_;refine sq (((v.list.length : Nat) : Int) == 0) ?_ ?_
    ·exact zz2 trivial
    refine zz2 ?_;refine sq (((0 : Nat) : Int) == 0) ?_ ?_
    ·exact zz2 trivial
    refine zz2 ?_
    try rw [← hR]
    try simp
 rw [if_neg (nF h9)] at hR;apply ik <;> intro h10
 ·rw [if_pos h10] at hR;apply ik <;> intro h
  ·rw [h] at hR;rw [← hR];rfl
  rw [h, Bool.not_false, Bool.true_and] at hR
  try refine zz2 ?_
  refine sq (v.scale == 0) ?_ ?_
  ·exact zz2 trivial
  refine zz2 ?_;refine sq (true) ?_ ?_
  ·exact zz2 trivial
  refine zz2 ?_;refine sq (((0 : Nat) : Int) == 0) ?_ ?_
  ·exact zz2 trivial
  refine zz2 ?_;refine sq (((v.fields.length : Nat) : Int) == 0) ?_ ?_
  ·exact zz2 trivial
  refine zz2 ?_
  try rw [← hR]
  try simp
 rw [if_neg (nF h10)] at hR;refine sq (v.scale == 0) ?_ ?_
 ·exact zz2 trivial
 refine zz2 ?_;refine sq (v.text == []) ?_ ?_
 ·exact zz2 trivial
 refine zz2 ?_;refine sq (((v.list.length : Nat) : Int) == 0) ?_ ?_
 ·exact zz2 trivial
 refine zz2 ?_;refine sq (((v.fields.length : Nat) : Int) == 0) ?_ ?_
 ·exact zz2 trivial
 refine zz2 ?_
 try rw [← hR]
 try simp
abbrev f159 : Dat := .fn (.func 219) [] []
theorem walk219 (x : Fld) (n : Str) : PT 219 [encF x, .str n] (.d (.int .i64 (cmpS x.name n))) := by
 refine ok219.pc ?_;have c := (walk107 x.name n).call trivial;rw [encF_eq];simp only [go_sem, ir219, simprocAttr];refine wc c trivial
def bsG (l : List Fld) (n : Str) : Nat → Nat → Nat → Nat
 | 0, i, _ => i
 | f + 1, i, j => if i < j then (if cmpS ((l[(i + j) / 2]?.map Fld.name).getD []) n < 0 then bsG l n f ((i + j) / 2 + 1) j else bsG l n f i ((i + j) / 2)) else i
theorem mid_bit (i j : Nat) (h : i + j ≤ 200000000000) : bitD .shr .u64 (IntKind.u64.wrap (IntKind.i64.wrap ((i : Int) + (j : Int)))) .u64 1 = some (0 ≤ (1 : Int), (((i + j) / 2 : Nat) : Int)) := by
 have e1 : IntKind.i64.wrap ((i : Int) + (j : Int)) = ((i + j : Nat) : Int) := by rw [IntKind.wrap_i64]; omega
 have e2 : IntKind.u64.wrap ((i + j : Nat) : Int) = ((i + j : Nat) : Int) := by rw [IntKind.wrap_u64]; omega
 rw [e1, e2];simp only [bitD];have e3 : ((2 : Int) ^ min (Int.toNat 1) IntKind.u64.bits) = 2 := dC;rw [e3, Int.fdiv_eq_ediv_of_nonneg _ dC];congr 2
theorem bsG_le {l : List Fld} {n : Str} : ∀ (f i j : Nat), i ≤ j → j ≤ l.length → bsG l n f i j ≤ l.length
 | 0, i, j, h, h2 => by rw [bsG]; omega
 | f + 1, i, j, h, h2 => by
  rw [bsG];split
  ·split
   ·exact bsG_le f _ _ oM h2
   ·exact bsG_le f _ _ oM oM
  ·omega
def bsR (l : List Fld) (n : Str) : Nat := bsG l n (l.length + 1) 0 l.length
def bsB (l : List Fld) (n : Str) : Bool := decide (bsR l n < l.length) && (cmpS ((l[bsR l n]?.map Fld.name).getD []) n == 0)
theorem bsR_le (l : List Fld) (n : Str) : bsR l n ≤ l.length := bsG_le _ _ _ (Nat.zero_le _) (Nat.le_refl _)
theorem walk218 (l : List Fld) (n : Str) (hl : l.length ≤ 68719476736) : PT 218 [.list 7 (l.map encF), .str n, f159] (.tup [.d (.int .i64 (bsR l n)), .d (.bool (bsB l n))]) := by
 have hRl := bsR_le l n;generalize hB : bsB l n = B;unfold bsB at hB;generalize hR : bsR l n = R at *;unfold bsR at hR;refine ok218.pc ?_;simp only [go_sem, ir218, List.length_map, Nat.reduceAdd, Nat.reduceEqDiff, Nat.reduceBEq, Nat.reduceLeDiff, reduceCtorEq, ↓reduceIte];refine wpc_loop (fun m s => ∃ (i j : Nat), i ≤ j ∧ j ≤ l.length ∧ m = j - i ∧ (∃ f, j - i < f ∧ bsG l n f i j = R) ∧
  s = ⟨[(0, .d (.list 7 (l.map encF))), (1, .d (.str n)), (2, .d f159), (8, .d (.int .i64 l.length)), (9, .d (.int .i64 i)), (10, .d (.int .i64 j))], []⟩) ?_ ?_
 ·exact ⟨_, _, Wk.refl _, 0, l.length, Nat.zero_le _, Nat.le_refl _, rfl, ⟨_, oM, hR⟩, rfl⟩
 ·rintro m s ⟨i, j, hij, hj, rfl, ⟨f, hf, hinv⟩, rfl⟩;by_cases hlt : i < j
  ·have hd : decide ((i : Int) < (j : Int)) = true := sO;obtain ⟨f, rfl⟩ : ∃ g, f = g + 1 := ⟨f - 1, oM⟩;rw [bsG, if_pos hlt] at hinv;have hbit := mid_bit i j oM;have hh : (i + j) / 2 < l.length := oM;have hm1 : i ≤ (i + j) / 2 := oM;have hm2 : (i + j) / 2 < j := oM;generalize (i + j) / 2 = h at *;have hx := nth_encF hh;have hw : IntKind.i64.wrap (h : Int) = (h : Int) := by rw [IntKind.wrap_i64]; omega
   have c := (walk219 l[h] n).call trivial;rw [encF_eq] at c;rw [List.getElem?_eq_getElem hh] at hinv;simp only [Option.map_some, Option.getD_some] at hinv;simp only [go_sem, hd, hbit, hw, hx, Int.toNat_natCast, List.length_map, Nat.reduceAdd, Nat.reduceEqDiff, Nat.reduceBEq, Nat.reduceLeDiff, reduceCtorEq, ↓reduceIte];refine ⟨oM, oM, wn c ?_⟩;refine zz ?_;apply ik <;> intro h3
   ·rw [if_pos (sX h3)] at hinv;refine ⟨j - (h + 1), _, oM, Wk.less ?_, h + 1, j, oM, hj, rfl, ⟨f, oM, hinv⟩, rfl⟩;simp only [go_sem, wrap64s h oM, Nat.reduceAdd, Nat.reduceEqDiff, Nat.reduceBEq, Nat.reduceLeDiff, reduceCtorEq, ↓reduceIte]
   ·rw [if_neg (sX h3)] at hinv;refine ⟨h - i, _, oM, Wk.less ?_, i, h, oM, oM, rfl, ⟨f, oM, hinv⟩, rfl⟩;exact zz trivial
  ·have hd : decide ((i : Int) < (j : Int)) = false := sO;have hiR : i = R := by
    rw [← hinv];cases f with
    | zero => rw [bsG]
    | succ f => rw [bsG, if_neg hlt]
   subst hiR;refine zz22 ?_;refine scQ_pure (cmpS ((l[i]?.map Fld.name).getD []) n == 0) (fun h4 => ?_) ?_
   ·have hh : i < l.length := sX h4;have hx := nth_encF hh;have c := (walk219 l[i] n).call trivial;rw [encF_eq] at c;rw [List.getElem?_eq_getElem hh];simp only [Option.map_some, Option.getD_some];refine zz24 ?_;refine ⟨oM, wn c ?_⟩;exact zz trivial
   refine zz ?_;rw [← hB]
   try simp
abbrev f91 : Dat := .fn (.func 127) [] []
abbrev zVo : Av.Obj := .box [.d (.int .i64 0), .d (.int .i64 0), .d (.int .i64 0), .d (.str []), .d (.nil 6), .d (.nil 7)]
theorem tfR_mem {t : Typ} {n : Str} (h : (tfR t n).2 = true) : (tfR t n).1 ∈ t.fields := by
 unfold tfR at h ⊢;cases e : idxG n t.fields with
 | none => rw [e] at h; cases h
 | some i =>
  have hil : i < t.fields.length := by
   obtain ⟨h, _⟩ := List.findIdx?_eq_some_iff_getElem.1 e;exact h
  simp only [List.getElem?_eq_getElem hil, Option.getD_some];exact List.getElem_mem hil
def innR (ch : Typ → Val → Val) (t : Typ) (l : List Fld) : List Fld := l.map fun x => if (tfR t x.name).2 = true then .mk x.name (ch (tfR t x.name).1.type x.value) else x
def innF (ch : Typ → Val → Val) (t : Typ) (v : Val) : Val :=
 if (t.kind == 8 && ((t.elem.length : Nat) : Int) == 1) = true then .mk v.kind v.int v.scale v.text (v.list.map (ch ((t.elem[0]?).getD ty0))) v.fields
 else if (t.kind == 10) = true then (if (tfR t v.text).2 = true then .mk v.kind v.int v.scale v.text [ch (tfR t v.text).1.type ((v.list[0]?).getD zeroV)] v.fields else v)
 else v
theorem con217k (ch : Typ → Val → Val) (t : Typ) (v : Val) (hk : t.kind = 9) (hl : v.fields.length ≤ 1000000000)
  (h2 : ∀ g ∈ t.fields, ∀ f ∈ v.fields, PT 127 [encT g.type, encV f.value] (.d (encV (ch g.type f.value)))) :
  KT 217 [.d (encT t), .d (encV v), .d f91] []
   (.agg [.d (.int .i64 v.kind), .d (.int .i64 v.int), .d (.int .i64 v.scale), .d (.str v.text), .d (.list 6 (v.list.map encV)), .ms 79 v.fields.length])
   [(79, .row v.fields.length 7 ((innR ch t v.fields).map encF))] := by
 refine ok217.co (k := true) (closed_puts (by simp [puts, put, closedH, objIn, idsInL, idsIn])) (by simp [hputs, upd, inT, idsIn, idsInL]) ?_;rw [encT_eq t, encV_eq v];have e8 : (t.kind == 8) = false := by rw [hk]; rfl
 have e9 : (t.kind == 9) = true := by rw [hk]; rfl
 simp only [go_sem, ir217, e8, e9, simprocAttr];refine wpc_loop (fun n s => ∃ k : Nat, k ≤ v.fields.length ∧ n = v.fields.length - k ∧
  s = ⟨[(2, .d f91), (3, .ref 3 0), (6, .ref 6 0), (7, .ref 7 0), (54, .d (.list 7 (v.fields.map encF))), (55, .d (.int .i64 v.fields.length)), (56, .d (.int .i64 k))],
   [(3, bxT t), (6, zVo), (7, .box [.d (.int .i64 v.kind), .d (.int .i64 v.int), .d (.int .i64 v.scale), .d (.str v.text), .d (.list 6 (v.list.map encV)), .ms 79 k]), (79, .row k 7 ((innR ch t (v.fields.take k)).map encF))]⟩) ?_ ?_
 ·refine ⟨_, _, (Wk.nilB 7 5 79 7 _ rfl rfl rfl dC).trans (Wk.less ?_), 0, Nat.zero_le _, rfl, rfl⟩;simp [put, go_sem, bxT, innR]
 ·rintro n s ⟨k, hk1, rfl, rfl⟩;by_cases hlt : k < v.fields.length
  ·have hx := nth_encF hlt;have hd := dT hlt;have hmem := List.getElem_mem hlt;have hlen : (innR ch t (v.fields.take k)).length = k := by simp [innR]; omega
   have htk : innR ch t (v.fields.take (k + 1)) = innR ch t (v.fields.take k) ++ [if (tfR t v.fields[k].name).2 = true then .mk v.fields[k].name (ch (tfR t v.fields[k].name).1.type v.fields[k].value) else v.fields[k]] := by
    unfold innR;rw [List.take_succ_eq_append_getElem hlt, List.map_append];rfl
   have c102 := (walk102 t v.fields[k].name).call (by simp [pureR]);have hin := @tfR_mem t v.fields[k].name;generalize tfR t v.fields[k].name = T at *;have c127 : T.2 = true → CT 127 [.d (encT T.1.type), .d (encV v.fields[k].value)] [] (.d (encV (ch T.1.type v.fields[k].value))) [] := fun h => (h2 T.1 (hin h) v.fields[k] hmem).call trivial
   generalize ch T.1.type v.fields[k].value = Y at *;rw [encT_eq t, encG_eq T.1] at c102;simp only [go_sem, hx, hd, Int.toNat_natCast, List.length_map, bxT, zVo, simprocAttr];refine ⟨oM, ?_⟩;refine wn c102 ?_;refine zz3 ?_;apply ik <;> intro h
   ·have c := c127 h;rw [encT_eq, encV_eq v.fields[k].value, encV_eq Y] at c;rw [if_pos h] at htk
    try refine zz3 ?_
    refine wn c ?_;refine zz3 ?_;refine ⟨sP, by simp [hlen]; omega, v.fields.length - (k + 1), _, oM, Wk.less ?_, k + 1, oM, rfl, rfl⟩;rw [htk, List.map_append];simp only [go_sem, wrap64s k oM, List.map_cons, List.map_nil, encF_eq, Fld.name, Fld.value, simprocAttr]
   ·rw [if_neg (nF h)] at htk
    try refine zz3 ?_
    refine ⟨sP, by simp [hlen]; omega, v.fields.length - (k + 1), _, oM, Wk.less ?_, k + 1, oM, rfl, rfl⟩;rw [htk, List.map_append];simp only [go_sem, wrap64s k oM, List.map_cons, List.map_nil, encF_eq v.fields[k], Nat.reduceAdd, Nat.reduceEqDiff, Nat.reduceBEq, Nat.reduceLeDiff, Int.reduceBEq, reduceCtorEq, ↓reduceIte]
  ·have hd := dF hlt;obtain rfl : k = v.fields.length := oM;simp only [go_sem, hd, List.take_length, bxT, zVo, simprocAttr]
theorem step217 (ch : Typ → Val → Val) (t : Typ) (v : Val) (h9 : t.kind ≠ 9) (h10 : t.kind = 10 → v.list.length = 1)
  (h1 : ∀ e ∈ t.elem, ∀ x ∈ v.list, PT 127 [encT e, encV x] (.d (encV (ch e x))))
  (h3 : ∀ g ∈ t.fields, ∀ x ∈ v.list, PT 127 [encT g.type, encV x] (.d (encV (ch g.type x)))) :
  PT 217 [encT t, encV v, f91] (.d (encV (innF ch t v))) := by
 refine PCon.of_fits ok217.has fun hfit => ?_
 have hvl := (fits_V3 (hfit _ (List.mem_cons_of_mem _ (List.mem_cons_self)))).2.1;refine ok217.pc ?_;generalize hR : innF ch t v = R;unfold innF at hR;have h9' : (t.kind == 9) = false := sX h9;have c102 := (walk102 t v.text).call (by simp [pureR]);have hin := @tfR_mem t v.text;generalize tfR t v.text = T at *;rw [encT_eq t, encG_eq T.1] at c102;rw [encT_eq t, encV_eq v, encV_eq R];simp only [go_sem, ir217, simprocAttr];refine sq (((t.elem.length : Nat) : Int) == 1) ?_ ?_
 ·exact zz28 trivial
 refine zz3 ?_;apply ik <;> intro h8
 ·rw [if_pos h8] at hR;have he1 : t.elem.length = 1 := by
   simp only [Bool.and_eq_true, beq_iff_eq] at h8;omega
  have he0 : 0 < t.elem.length := oM;have hx0 := nth_encT he0;have hem := List.getElem_mem he0;rw [List.getElem?_eq_getElem he0, Option.getD_some] at hR;generalize t.elem[0] = e at *;subst hR
  try simp only [go_sem, bxT, simprocAttr]
  refine wpc_loop (fun n s => ∃ k : Nat, k ≤ v.list.length ∧ n = v.list.length - k ∧
   s = ⟨[(2, .d f91), (3, .ref 3 0), (6, .ref 6 0), (7, .ref 7 0), (29, .d (.list 6 (v.list.map encV))), (30, .d (.int .i64 v.list.length)), (31, .d (.int .i64 k))],
    [(3, bxT t), (6, zVo), (7, .box [.d (.int .i64 v.kind), .d (.int .i64 v.int), .d (.int .i64 v.scale), .d (.str v.text), .ms 45 k, .d (.list 7 (v.fields.map encF))]), (45, .row k 6 ((v.list.take k).map fun x => encV (ch e x)))]⟩) ?_ ?_
  ·refine ⟨_, _, (Wk.nilB 7 4 45 6 _ rfl rfl rfl dC).trans (Wk.less ?_), 0, Nat.zero_le _, rfl, rfl⟩;simp [put, go_sem, bxT]
  ·rintro n s ⟨k, hk1, rfl, rfl⟩;by_cases hlt : k < v.list.length
   ·have hx := nth_encV hlt;have hd := dT hlt;have c := (h1 e hem v.list[k] (List.getElem_mem hlt)).call trivial;have htk : (v.list.take (k + 1)).map (fun x => encV (ch e x)) = (v.list.take k).map (fun x => encV (ch e x)) ++ [encV (ch e v.list[k])] := by
     rw [List.take_succ_eq_append_getElem hlt, List.map_append];rfl
    rw [encV_eq (ch e v.list[k])] at c htk;generalize ch e v.list[k] = Y at *;rw [encT_eq, encV_eq v.list[k]] at c;simp only [go_sem, hx, hd, hx0, Int.toNat_natCast, Int.toNat_zero, List.length_map, bxT, zVo, simprocAttr];refine ⟨oM, oM, wpsL_call rfl c trivial ?_⟩;refine zz3 ?_;refine ⟨sP, sO, rfl, v.list.length - (k + 1), _, oM, Wk.less ?_, k + 1, oM, rfl, rfl⟩;rw [htk];simp only [go_sem, wrap64s k oM, List.map_cons, List.map_nil, simprocAttr]
   ·have hd := dF hlt;obtain rfl : k = v.list.length := oM;have hm : v.list.map (fun x => encV (ch e x)) = (v.list.map (ch e)).map encV := by rw [List.map_map]; rfl
    simp only [go_sem, hd, List.take_length, hm, bxT, zVo, simprocAttr]
    try simp only [Val.kind, Val.int, Val.scale, Val.text, Val.list, Val.fields]
 rw [if_neg (nF h8)] at hR
 try refine zz29 ?_
 apply ik <;> intro h5
 ·rw [if_pos h5] at hR;have h5' : t.kind = 10 := sX h5;have hl1 := h10 h5';have hl0 : 0 < v.list.length := oM;have hx0 := nth_encV hl0;have hlm := List.getElem_mem hl0;rw [List.getElem?_eq_getElem hl0, Option.getD_some] at hR;have c127 : T.2 = true → CT 127 [.d (encT T.1.type), .d (encV v.list[0])] [] (.d (encV (ch T.1.type v.list[0]))) [] := fun h => (h3 T.1 (hin h) v.list[0] hlm).call trivial
  generalize ch T.1.type v.list[0] = Y at *
  try refine zz3 ?_
  refine wn c102 ?_;refine zz3 ?_;apply ik <;> intro h
  ·have c := c127 h;rw [encT_eq, encV_eq v.list[0], encV_eq Y] at c;rw [if_pos h] at hR;subst hR;refine zz43 ?_;refine ⟨oM, wn c ?_⟩;refine zz3 ?_;refine ⟨sP, ?_⟩;simp only [Val.kind, Val.int, Val.scale, Val.text, Val.list, Val.fields, List.map_cons, List.map_nil, encV_eq Y]
  ·rw [if_neg (nF h)] at hR;subst hR
   try simp only [go_sem, simprocAttr]
 ·rw [if_neg (nF h5)] at hR;subst hR
  try simp only [go_sem, simprocAttr]
def dfl1 (fs : List Fld) (g : TFl) : List Fld :=
 if (g.need != 3 || ((g.dflt.length : Nat) : Int) != 1) = true then fs
 else if bsB fs g.name = true then fs
 else fs.take (bsR fs g.name) ++ .mk g.name ((g.dflt[0]?).getD zeroV) :: fs.drop (bsR fs g.name)
def dflA : List Fld → List TFl → List Fld
 | fs, [] => fs
 | fs, g :: r => dflA (dfl1 fs g) r
def cmS (ch : Typ → Val → Val) (t : Typ) (v : Val) : Val :=
 if (v.kind != t.kind || !formB v) = true then v else if t.kind = 9 then .mk v.kind v.int v.scale v.text v.list (dflA (innR ch t v.fields) t.fields) else innF ch t v
theorem dfl1_len (fs : List Fld) (g : TFl) : (dfl1 fs g).length ≤ fs.length + 1 := by
 unfold dfl1;split
 ·omega
 split
 ·omega
 ·simp only [List.length_append, List.length_cons, List.length_take, List.length_drop];omega
theorem call218 (i m : Nat) (fs : List Fld) (n : Str) (hl : fs.length ≤ 1000000000) :
  CT (.fn 218) [.ms i m, .d (.str n), .d f159] [(i, some (.row m 7 (fs.map encF)))] (.tup [.d (.int .i64 (bsR fs n)), .d (.bool (bsB fs n))]) [] := by
 have h := walk218 fs n oM;refine PCon.borrowT (ds := [.list 7 (fs.map encF), .str n, f159]) (p := m = m ∧ True ∧ True ∧ True) (u := [(i, .frz m 7 (fs.map encF))]) ?_ rfl rfl (fun H hH => ?_) ⟨rfl, trivial, trivial, trivial⟩
 ·simp only [List.map_cons, List.map_nil, Dat.canon, canonL, canonL_flds];exact h
 ·have hi : H i = some (.row m 7 (fs.map encF)) := hH _ (List.mem_cons_self);simp [datumAll, datum, datum1, hi]
theorem call217k (ch : Typ → Val → Val) (t : Typ) (v : Val) (hk : t.kind = 9) (hl : v.fields.length ≤ 1000000000)
  (h2 : ∀ g ∈ t.fields, ∀ f ∈ v.fields, PT 127 [encT g.type, encV f.value] (.d (encV (ch g.type f.value)))) (i : Nat) :
  CT (.fn 217) [.d (encT t), .d (encV v), .d f91] [(i, none)]
   (.agg [.d (.int .i64 v.kind), .d (.int .i64 v.int), .d (.int .i64 v.scale), .d (.str v.text), .d (.list 6 (v.list.map encV)), .ms i v.fields.length])
   [(i, .row v.fields.length 7 ((innR ch t v.fields).map encF))] := by
 have hd : ∀ j, (hputs (Av.get []) [(79, Obj.row v.fields.length 7 ((innR ch t v.fields).map encF))] j).isSome = true → j = 79 := by
  intro j h;simp only [hputs, upd] at h;split at h
  ·rename_i e; exact e
  ·cases h
 have := (con217k ch t v hk hl h2).call (fun _ => i) (by intro j h; cases h) ?_ ?_ (by intro j o h; cases h) [79] ?_ ?_ ?_
 ·simp only [Av.ren, Obj.ren, renL, List.map_cons, List.map_nil, List.nil_append, simprocAttr] at this ⊢;exact this
 ·intro a b ha hb _;rw [hd a ha, hd b hb]
 ·intro c hc;simp only [List.mem_cons, List.not_mem_nil, or_false] at hc;rcases hc with rfl | rfl | rfl <;> trivial
 ·intro e he;simp only [List.mem_cons, List.not_mem_nil, or_false] at he;subst he;exact .inr sP
 ·exact closed_puts (by simp [puts, put, closedH, objIn, idsInL, idsIn])
 ·simp [hputs, upd, inT, idsIn, idsInL]
theorem step127 (ch : Typ → Val → Val) (t : Typ) (v : Val) (hl : v.fields.length ≤ 400000000) (ht : t.fields.length ≤ 400000000)
  (h1 : ∀ e ∈ t.elem, ∀ x ∈ v.list, PT 127 [encT e, encV x] (.d (encV (ch e x))))
  (h2 : ∀ g ∈ t.fields, ∀ f ∈ v.fields, PT 127 [encT g.type, encV f.value] (.d (encV (ch g.type f.value))))
  (h3 : ∀ g ∈ t.fields, ∀ x ∈ v.list, PT 127 [encT g.type, encV x] (.d (encV (ch g.type x)))) :
  PT 127 [encT t, encV v] (.d (encV (cmS ch t v))) := by
 refine ok127.pc ?_;have c97 := (walk97 v).call trivial;have c217 := fun h => call217k ch t v h oM h2 1
 have c217' := fun h9 h10 => (step217 ch t v h9 h10 h1 h3).call trivial
 generalize hR : cmS ch t v = R;unfold cmS at hR;have hf10 : v.kind = 10 → formB v = true → v.list.length = 1 := by
  intro h hf;unfold formB at hf;rw [h] at hf;simp only [Int.reduceBEq, Bool.false_eq_true, ↓reduceIte, Bool.and_eq_true, Bool.not_eq_true', bne_eq_false_iff_eq] at hf;have := hf.1;omega
 generalize innF ch t v = I at *;rw [encT_eq t, encV_eq v] at c217';rw [encV_eq I] at c217';rw [encT_eq t, encV_eq v] at c217;rw [encV_eq v] at c97;rw [encT_eq t, encV_eq v, encV_eq R];simp only [go_sem, ir127, simprocAttr];refine sq (!formB v) ?_ ?_
 ·refine zz3 ?_;refine wn c97 ?_;exact zz3 trivial
 refine zz3 ?_;apply ik <;> intro h
 ·rw [if_pos h] at hR;subst hR
  try simp only [go_sem, simprocAttr]
 rw [if_neg (nF h)] at hR;have hkk : v.kind = t.kind ∧ formB v = true := sX h
 try refine zz3 ?_
 by_cases h9 : t.kind = 9
 ·rw [if_pos h9] at hR;refine wn (c217 h9) ?_;have h9' : (t.kind != 9) = false := sX h9;refine zz29 ?_;refine wpc_loop (fun n s => ∃ (k m : Nat) (fs : List Fld), k ≤ t.fields.length ∧ n = t.fields.length - k ∧ fs.length ≤ v.fields.length + k ∧ dflA (innR ch t v.fields) t.fields = dflA fs (t.fields.drop k) ∧
   s = ⟨[(4, .ref 4 0), (5, .ref 5 0), (29, .d (.list 11 (t.fields.map encG))), (30, .d (.int .i64 t.fields.length)), (31, .d (.int .i64 k))],
    [(4, zVo), (5, .box [.d (.int .i64 v.kind), .d (.int .i64 v.int), .d (.int .i64 v.scale), .d (.str v.text), .d (.list 6 (v.list.map encV)), .ms 1 m]), (1, .row m 7 (fs.map encF))]⟩) ?_ ?_
  ·refine ⟨_, _, Wk.less ?_, 0, v.fields.length, innR ch t v.fields, Nat.zero_le _, rfl, by simp [innR], rfl, rfl⟩;simp [put, go_sem, zVo]
  ·rintro n s ⟨k, m, fs, hk1, rfl, hfl, hinv, rfl⟩;by_cases hlt : k < t.fields.length
   ·have hx := nth_encG hlt;have hd := dT hlt;rw [List.drop_eq_getElem_cons hlt, dflA] at hinv;have hdl := dfl1_len fs t.fields[k];generalize hg : t.fields[k] = g at *;simp only [go_sem, hx, hd, Int.toNat_natCast, List.length_map, zVo, simprocAttr];refine ⟨oM, ?_⟩;refine sq (((g.dflt.length : Nat) : Int) != 1) ?_ ?_
    ·exact zz28 trivial
    refine zz3 ?_;have hback : ∀ (m' : Nat) (fs' : List Fld), fs' = dfl1 fs g → True := fun _ _ _ => trivial
    unfold dfl1 at hinv hdl;apply ik <;> intro hc
    ·rw [if_pos hc] at hinv
     try refine zz3 ?_
     refine ⟨t.fields.length - (k + 1), _, oM, Wk.less ?_, k + 1, m, fs, oM, rfl, oM, hinv, rfl⟩;exact zz30 trivial
    rw [if_neg (nF hc)] at hinv hdl
    try refine zz3 ?_
    refine wn (call218 1 m fs g.name oM) ?_;have hbl := bsR_le fs g.name;generalize bsR fs g.name = at_ at *;generalize bsB fs g.name = bb at *;refine zz3 ?_;apply ik <;> intro hb
    ·have hb' : ¬ bb = true := sX hb;rw [if_neg hb'] at hinv hdl;have hd1 : g.dflt.length = 1 := by
      simp only [Bool.or_eq_false_iff, bne_eq_false_iff_eq] at hc;have := hc.2;omega
     have hd0 : 0 < g.dflt.length := oM;have hx0 := nth_encV hd0;rw [List.getElem?_eq_getElem hd0, Option.getD_some] at hinv hdl;generalize g.dflt[0] = y at *;have c162 := ins_at 1 m at_ (fs.map encF) (.agg [.str g.name, .int .i64 y.kind, .int .i64 y.int, .int .i64 y.scale, .str y.text, .list 6 (y.list.map encV), .list 7 (y.fields.map encF)]) (sX hbl) sO rfl;have hse : (fs.map encF).take at_ ++ (.agg [.str g.name, .int .i64 y.kind, .int .i64 y.int, .int .i64 y.scale, .str y.text, .list 6 (y.list.map encV), .list 7 (y.fields.map encF)]) :: (fs.map encF).drop at_ = List.map encF (fs.take at_ ++ .mk g.name y :: fs.drop at_) := by
      rw [List.map_append, List.map_cons, List.map_take, List.map_drop, encF_eq (.mk g.name y)];rfl
     rw [hse] at c162;generalize fs.take at_ ++ .mk g.name y :: fs.drop at_ = fs' at *
     try refine zz43 ?_
     refine ⟨oM, sP, wpsL_call rfl c162 ⟨rfl, trivial⟩ ?_⟩;refine zz3 ?_;refine ⟨dC, t.fields.length - (k + 1), _, oM, Wk.less ?_, k + 1, m + 1, fs', oM, rfl, oM, hinv, rfl⟩;exact zz30 trivial
    ·have hb' : bb = true := sX hb;rw [if_pos hb'] at hinv
     try refine zz3 ?_
     refine ⟨t.fields.length - (k + 1), _, oM, Wk.less ?_, k + 1, m, fs, oM, rfl, oM, hinv, rfl⟩;exact zz30 trivial
   ·have hd := dF hlt;rw [List.drop_eq_nil_of_le oM, dflA] at hinv;rw [hinv] at hR;subst hR;simp only [go_sem, hd, zVo, simprocAttr]
    first | rfl | simp only [Val.kind, Val.int, Val.scale, Val.text, Val.list, Val.fields]
 ·rw [if_neg h9] at hR;have h9' : (t.kind != 9) = true := sX h9;refine wn (c217' h9 (fun h => hf10 (hkk.1.trans h) hkk.2)) ?_;refine zz29 ?_;subst hR
  try simp only [go_sem, simprocAttr]
mutual
def szT : Typ → Nat
 | .mk _ _ _ _ _ e f => 1 + szTs e + szGs f
def szTs : List Typ → Nat
 | [] => 0
 | v :: r => szT v + szTs r
def szGs : List TFl → Nat
 | [] => 0
 | .mk _ _ _ t _ :: r => szT t + szGs r
end
theorem szT_eq (t : Typ) : szT t = 1 + szTs t.elem + szGs t.fields := by cases t; rfl
theorem szTs_mem : ∀ {l : List Typ}, ∀ x ∈ l, szT x ≤ szTs l
 | v :: r, x, hx => by
  simp only [szTs];rcases List.mem_cons.1 hx with rfl | hx
  ·omega
  ·have := szTs_mem x hx; omega
theorem szGs_mem : ∀ {l : List TFl}, ∀ x ∈ l, szT x.type ≤ szGs l
 | .mk a b c t d :: r, x, hx => by
  simp only [szGs];rcases List.mem_cons.1 hx with rfl | hx
  ·show szT t ≤ _; omega
  ·have := szGs_mem x hx; omega
theorem szGs_len : ∀ l : List TFl, l.length ≤ szGs l
 | [] => Nat.zero_le _
 | .mk a b c t d :: r => by
  have := szGs_len r;have h : 1 ≤ szT t := by rw [szT_eq]; omega
  simp only [szGs, List.length_cons];omega
def cmF : Nat → Typ → Val → Val
 | 0, _, v => v
 | k + 1, t, v => cmS (cmF k) t v
theorem walk127 : ∀ (k : Nat) (t : Typ) (v : Val), szT t ≤ k → k ≤ 400000000 → szV v ≤ 400000000 → PT 127 [encT t, encV v] (.d (encV (cmF k t v)))
 | 0, t, v, h, _, _ => by rw [szT_eq] at h; omega
 | k + 1, t, v, h, hk, hv => by
  have e := szT_eq t;have ev := szV_eq v;have f1 := szGs_len t.fields;have f2 := szFs_len v.fields;refine step127 (cmF k) t v oM oM (fun e he x hx => ?_) (fun g hg f hf => ?_) (fun g hg x hx => ?_)
  ·have a := szTs_mem e he;have b := szVs_mem hx;exact walk127 k _ _ oM oM oM
  ·have a := szGs_mem g hg;have b := szFs_mem hf;exact walk127 k _ _ oM oM oM
  ·have a := szGs_mem g hg;have b := szVs_mem hx;exact walk127 k _ _ oM oM oM
end Go.Proofs
namespace Go.Proofs
open Go Av
open Av.Y
def b36_0 : Ic := q (R (om 34 0<|om 35 3<|cl 36 96 [t 34,t 35,i 1]<|N) [0,3,5,6,18,34,35,36])<|.ret
def b36_1 : Ic := q (R (om 41 0<|om 42 3<|cl 43 96 [t 41,t 42,i 8]<|N) [0,3,5,6,37,41,42,43])<|.ret
def b36_2 : Ic := q (R (oL 38 6 6<|cl 39 97 [t 38]<|og 40 39<|om 37 40<|N) [18,38,39,40])<|D (I 37 b36_1 S) [37]
def b36_3 : Ic := q (R (of 19 5 0<|ol 20 19<|oi 21 .lss 20 1<|om 22 21<|.sc 22 false (of 23 5 0<|ol 24 23<|oi 25 .gtr 24 10<|N) (t 25) 26 (om 27 26<|.sc 27 false (of 28 6 0<|ol 29 28<|of 30 5 0<|ol 31 30<|ot 32 .neq 29 31<|N) (t 32) 33 (om 18 33<|N))) [13,19,20,21,22,23,24,25,26,27,28,29,30,31,32,33])<|I 18 b36_0 b36_2
def b36_4 : Ic := q (R (oi 48 .eql 45 6<|om 46 48<|N) [48])<|I 46 S (R (oi 49 .eql 45 7<|om 46 49<|N) [49])
def b36_5 : Ic := R (om 50 0<|oL 51 7 5<|om 52 3<|of 53 6 1<|ol 54 53<|cl 55 98 [t 50,t 51,t 52,t 54]<|N) [0,3,5,6,45,46,50,51,52,53,54,55]
def b36_6 : Ic := R (om 63 0<|om 64 3<|cl 65 96 [t 63,t 64,i 3]<|N) [0,3,5,6,62,63,64,65]
def b36_7 : Ic := R (om 66 0<|oL 67 7 5<|om 68 3<|of 69 6 1<|ol 70 69<|cl 71 98 [t 66,t 67,t 68,t 70]<|N) [0,3,5,6,62,66,67,68,69,70,71]
def b36_8 : Ic := q (R (of 58 6 2<|ol 59 58<|of 60 5 3<|ol 61 60<|ot 62 .neq 59 61<|N) [45,56,58,59,60,61])<|I 62 b36_6 b36_7
def b36_9 : Ic := R (om 90 0<|om 91 3<|cl 92 96 [t 90,t 91,i 4]<|N) [0,3,89,90,91,92]
def b36_10 : Ic := q (R (of 84 5 4<|ol 85 84<|of 86 6 3<|ol 87 86<|cl 88 99 [t 85,t 87]<|og 89 88<|N) [5,6,83,84,85,86,87,88])<|D (I 89 b36_9 S) [0,3,89]
def b36_11 : Ic := R (om 93 0<|oL 94 7 5<|om 95 3<|of 96 6 3<|ol 97 96<|oj 98 97<|cl 99 98 [t 93,t 94,t 95,t 98]<|N) [0,3,5,6,83,93,94,95,96,97,98,99]
def b36_12 : Ic := q (R (of 75 5 0<|ol 76 75<|oi 77 .eql 76 4<|om 78 77<|.sc 78 true (of 79 5 4<|ol 80 79<|oh 81 80<|oi 82 .gtr 81 0<|N) (t 82) 83 N) [45,72,75,76,77,78,79,80,81,82])<|I 83 b36_10 b36_11
def b36_13 : Ic := R (om 127 0<|of 128 5 5<|ol 129 128<|oo 130 (.ixa true 7 (t 129) (i 0))<|oL 131 7 130<|oL 132 6 9<|om 133 10<|cl 134 36 [t 127,t 131,t 132,t 133]<|N) [9,10,126,127,128,129,130,131,132,133,134]
def b36_14 : Ic := R (om 135 0<|om 136 10<|cl 137 96 [t 135,t 136,i 1]<|N) [9,10,126,135,136,137]
def b36_15 : Ic := q (R (om 102 0<|oL 103 7 5<|om 104 3<|of 105 6 4<|ol 106 105<|oh 107 106<|cl 108 98 [t 102,t 103,t 104,t 107]<|N) [45,100,102,103,104,105,106,107,108])<|q (R (of 109 6 4<|ol 110 109<|oh 111 110<|oz 112 0<|N) [6,109])<|D (.block 2<|.loop (q (.reg (ot 113 .lss 112 111<|N))<|q (D (I 113 S (E 2)) [113])<|q (D (.block 3<|q (R (om 114 112<|oa true 115 6 110 112<|oL 116 6 115<|oN 9 v6<|om 8 114<|oS 6 9 116<|N) [114,115,116])<|q (R (om 117 3<|ob 118 .cat (t 117) (.k (.str [91]))<|om 119 8<|cl 120 100 [t 119]<|ot 121 .cat 118 120<|ob 122 .cat (t 121) (.k (.str [93]))<|om 10 122<|N) [8,117,118,119,120,121,122])<|q (R (of 123 5 5<|ol 124 123<|oh 125 124<|oi 126 .eql 125 1<|N) [123,124,125])<|I 126 b36_13 b36_14) [114,115,116,9,8,117,118,119,120,121,122,10,123,124,125,126,127,128,129,130,131,132,133,134,135,136,137])<|R (oi 138 .add 112 1<|om 112 138<|N) [138])) [0,3,5,110,111,112,113,114,115,116,9,8,117,118,119,120,121,122,10,123,124,125,126,127,128,129,130,131,132,133,134,135,136,137,138]
def b36_16 : Ic := R (om 141 0<|oL 142 7 5<|oL 143 6 6<|om 144 3<|cl 145 101 [t 141,t 142,t 143,t 144]<|N) [0,3,5,6,45,139,141,142,143,144,145]
def b36_17 : Ic := R (om 156 0<|of 157 11 3<|oL 158 7 157<|of 159 6 4<|ol 160 159<|oo 161 (.ixa true 6 (t 160) (i 0))<|oL 162 6 161<|om 163 3<|ob 164 .cat (t 163) (.k (.str [63]))<|of 165 6 3<|ol 166 165<|ot 167 .cat 164 166<|cl 168 36 [t 156,t 158,t 162,t 167]<|N) [0,3,6,11,155,156,157,158,159,160,161,162,163,164,165,166,167,168]
def b36_18 : Ic := R (om 169 0<|om 170 3<|cl 171 96 [t 169,t 170,i 7]<|N) [0,3,6,11,155,169,170,171]
def b36_19 : Ic := q (R (oL 149 7 5<|of 150 6 3<|ol 151 150<|cl 152 102 [t 149,t 151]<|om 148 152<|oe 153 148 0<|oe 154 148 1<|oN 11 vG<|oS 11 11 153<|om 12 154<|N) [5,146,149,150,151,152,148,153,154])<|q (R (om 155 12<|N) [12])<|I 155 b36_17 b36_18
def b36_20 : Ic := q (R (oi 147 .eql 45 10<|om 146 147<|N) [45,139,147])<|D (I 146 b36_19 S) [0,3,5,6,146]
def b36_21 : Ic := q (R (oi 140 .eql 45 9<|om 139 140<|N) [100,140])<|I 139 b36_16 b36_20
def b36_22 : Ic := q (R (oi 101 .eql 45 8<|om 100 101<|N) [72,101])<|I 100 b36_15 b36_21
def b36_23 : Ic := q (q (R (oi 73 .eql 45 4<|om 72 73<|N) [56,73])<|I 72 S (R (oi 74 .eql 45 5<|om 72 74<|N) [74]))<|I 72 b36_12 b36_22
def ir36c : Ic := q (R (ox 5 1<|ox 6 2<|N) [1,2])<|q (D (.block 0<|q (R (om 14 0<|oc 15 14<|of 16 15 1<|ol 17 16<|om 13 17<|N) [14,15,16,17])<|D (I 13 .ret b36_3) [13]) [14,15,16,17,13,19,20,21,22,23,24,25,26,27,28,29,30,31,32,33,18,34,35,36,38,39,40,37,41,42,43])<|q (R (of 44 5 0<|ol 45 44<|N) [44])<|D (.block 1<|q (q (R (oi 47 .eql 45 2<|om 46 47<|N) [47])<|I 46 S b36_4)<|I 46 b36_5 (q (R (oi 57 .eql 45 3<|om 56 57<|N) [46,57])<|I 56 b36_8 b36_23)) [0,3,5,6,45,47,46,48,49,50,51,52,53,54,55,57,56,58,59,60,61,62,63,64,65,66,67,68,69,70,71,73,72,74,75,76,77,78,79,80,81,82,83,84,85,86,87,88,89,90,91,92,93,94,95,96,97,98,99,101,100,102,103,104,105,106,107,108,109,110,111,112,113,114,115,116,9,8,117,118,119,120,121,122,10,123,124,125,126,127,128,129,130,131,132,133,134,135,136,137,138,140,139,141,142,143,144,145,147,146,149,150,151,152,148,153,154,11,12,155,156,157,158,159,160,161,162,163,164,165,166,167,168,169,170,171]
theorem ok36c : FT 36 172 ir36c [] := .o Tryz.func36
end Go.Proofs
namespace Go.Proofs
open Go Av
variable {b : Bool}
abbrev TF (b : Bool) : List (Nat × Av.Obj) := [(1000, .box [.clo (.func 35) [] [.ref 1001 0], .d (.bool (!b))]), (1001, .box [.d (.bool b)])]
theorem closedTF (b c : Bool) : closed (hputs (Av.get (TF b)) (TF c)) := by
 refine closed_puts ?_;simp [TF, puts, put, closedH, objIn, idsInL, idsIn, Av.get]
theorem closedT1 (b : Bool) : closed (Av.get (TF b)) := by
 refine closed_of ?_;simp [TF, closedH, objIn, idsInL, idsIn, Av.get]
theorem TF_dom {i : Nat} (h : (Av.get (TF b) i).isSome = true) : i = 1000 ∨ i = 1001 := by
 simp only [TF, Av.get] at h
 repeat' split at h
 all_goals first | (cases h; done) | skip
 all_goals rename_i e
 all_goals first | omega | skip
theorem TF_put (b c : Bool) : puts (TF b) (TF c) = TF c := by simp [TF, puts, put]
theorem TF_hput (b c : Bool) : hputs (Av.get (TF b)) (TF c) = Av.get (TF c) := by rw [← get_puts, TF_put]
abbrev FCon (f : Nat) (ds : List Dat) (b c : Bool) : Prop := KT f (.ref 1000 0 :: ds.map .d) (TF b) (.tup []) (TF c)
theorem FCon.at {f : Nat} {ds : List Dat} {c : Bool} (h : FCon f ds b c) (i j : Nat) (hij : i ≠ j) :
  CT f (.ref i 0 :: ds.map .d) [(i, some (.box [.clo (.func 35) [] [.ref j 0], .d (.bool (!b))])), (j, some (.box [.d (.bool b)]))] (.tup []) [(i, .box [.clo (.func 35) [] [.ref j 0], .d (.bool (!c))]), (j, .box [.d (.bool c)])] := by
 have := Con.call h (fun m => if m = 1000 then i else j) (fun m hm => by rcases TF_dom hm with rfl | rfl <;> omega)
  (fun a b' ha hb e => by
   rw [TF_hput] at ha hb;rcases TF_dom ha with rfl | rfl <;> rcases TF_dom hb with rfl | rfl
   ·rfl
   ·simp at e; exact absurd e hij
   ·simp at e; exact absurd e.symm hij
   ·rfl)
  (by
   intro c hc;rcases List.mem_cons.1 hc with rfl | hc
   ·simp [inT, TF, Av.get, idsIn]
   ·obtain ⟨x, _, rfl⟩ := List.mem_map.1 hc; trivial) (closedT1 b) [] (by simp [TF, Av.get]) (closedTF b c) trivial
 have e : (ds.map Av.d).map (Av.ren fun m => if m = 1000 then i else j) = ds.map Av.d := by
  rw [List.map_map]; exact List.map_congr_left fun x _ => by simp [Av.ren]
 simp only [TF, List.map_cons, List.map_nil, Obj.ren, Av.ren, renL, List.append_nil, e, simprocAttr] at this;exact this
theorem FCon.to {f : Nat} {ds : List Dat} {c : Bool} (h : FCon f ds b c) : CT f (.ref 1000 0 :: ds.map .d) [(1000, some (.box [.clo (.func 35) [] [.ref 1001 0], .d (.bool (!b))])), (1001, some (.box [.d (.bool b)]))] (.tup []) (TF c) := h.at 1000 1001 dC
theorem con35 (p : Str) (n : Int) (b : Bool) : KT 35 [.d (.agg [.str p, .int .i64 n]), .ref 1001 0] [(1001, .box [.d (.bool b)])] (.d (.bool false)) [(1001, .box [.d (.bool false)])] := by
 refine ok35.co (k := false) (closed_puts (by simp [puts, put, closedH, objIn, idsInL, idsIn])) trivial ?_;simp only [go_sem, ir35, simprocAttr]
theorem call35 (p : Str) (n : Int) (b : Bool) : CT (.fn 35) [.d (.agg [.str p, .int .i64 n]), .ref 1001 0] [(1001, some (.box [.d (.bool b)]))] (.d (.bool false)) [(1001, .box [.d (.bool false)])] := by
 have hd : ∀ j, (Av.get [(1001, Obj.box [Av.d (.bool b)])] j).isSome = true → j = 1001 := by
  intro j h;simp only [Av.get] at h;split at h
  ·rename_i e; exact e.symm
  ·cases h
 have := (con35 p n b).call (fun m => m) (fun m hm => by rw [hd m hm]; omega) (fun a b' ha hb e => e) ?_ ?_ [] ?_ ?_ ?_
 ·simp only [List.map_cons, List.map_nil, Obj.ren, Av.ren, renL, List.append_nil, simprocAttr] at this;exact this
 ·intro c hc;simp only [List.mem_cons, List.not_mem_nil, or_false] at hc;rcases hc with rfl | rfl
  ·trivial
  ·simp [inT, Av.get, idsIn]
 ·exact closed_of (by simp [closedH, objIn, idsInL, idsIn])
 ·intro e he;simp only [List.mem_cons, List.not_mem_nil, or_false] at he;subst he;exact .inl (by simp [Av.get])
 ·exact closed_puts (by simp [puts, put, closedH, objIn, idsInL, idsIn])
 ·trivial
theorem con96 (p : Str) (n : Int) (b : Bool) : FCon 96 [.str p, .int .i64 n] b false := by
 refine ok96.co (k := false) (closedTF b false) trivial ?_;have c := call35 p n b;cases b with
 | true =>
  refine zz44 ?_;refine wn c ?_;exact zz45 trivial
 | false =>
  exact zz44 trivial
def inB (t : Typ) (n : Int) : Bool := !(decide (n < t.min) || decide (n > t.max))
theorem con98 (t : Typ) (p : Str) (n : Int) (b : Bool) : FCon 98 [encT t, .str p, .int .i64 n] b (b && inB t n) := by
 refine ok98.co (k := false) (closedTF b _) trivial ?_;have c := (con96 p 2 b).to;generalize hR : (b && inB t n) = R;unfold inB at hR;rw [encT_eq t];simp only [go_sem, ir98, TF, List.map_cons, List.map_nil, simprocAttr];refine sq (decide (n > t.max)) ?_ ?_
 ·exact zz3 trivial
 refine zz3 ?_;apply ik <;> intro h
 ·rw [h, Bool.not_true, Bool.and_false] at hR;subst hR
  try refine zz3 ?_
  refine wn c ?_;exact zz45 trivial
 ·rw [h, Bool.not_false, Bool.and_true] at hR;subst hR
  try simp only [go_sem, TF, simprocAttr]
theorem walk199 (l : List Str) (s : Str) (hl : l.length ≤ 68719476736) : ∃ n : Int, (n ≥ 0 ↔ s ∈ l) ∧ PT 199 [.list 1 (l.map .str), .str s] (.d (.int .i64 n)) := by
 refine ⟨match l.findIdx? (fun x => s == x) with | some k => (k : Int) | none => -1, ?_, ?_⟩
 ·cases e : l.findIdx? (fun x => s == x) with
  | none =>
   rw [List.findIdx?_eq_none_iff] at e;refine ⟨fun h => absurd h sP, fun h => ?_⟩;have := e s h;simp at this
  | some k =>
   obtain ⟨h1, h2, _⟩ := List.findIdx?_eq_some_iff_getElem.1 e;refine ⟨fun _ => ?_, fun _ => by simp⟩;have : s = l[k] := sX h2;rw [this];exact List.getElem_mem h1
 generalize hR : (match l.findIdx? (fun x => s == x) with | some k => (k : Int) | none => -1) = R;refine ok199.pc ?_;simp only [go_sem, ir199, List.length_map, Nat.reduceAdd, Nat.reduceEqDiff, Nat.reduceBEq, Nat.reduceLeDiff, Int.reduceBEq, reduceCtorEq, ↓reduceIte];refine wpc_loop (fun n z => ∃ k : Nat, k ≤ l.length ∧ n = l.length - k ∧ (∀ (j : Nat) (h1 : j < l.length), j < k → (s == l[j]) = false) ∧
  z = ⟨[(0, .d (.list 1 (l.map .str))), (1, .d (.str s)), (7, .d (.int .i64 l.length)), (8, .d (.int .i64 k))], []⟩) ?_ ?_
 ·exact ⟨_, _, Wk.refl _, 0, Nat.zero_le _, rfl, sP, rfl⟩
 ·rintro n z ⟨k, hk, rfl, hinv, rfl⟩;by_cases hlt : k < l.length
  ·have hx : nth (l.map Dat.str) k = .str l[k] := by rw [nth_eq (sX hlt), List.getElem_map]
   have hd := dT hlt;simp only [go_sem, hx, hd, Int.toNat_natCast, List.length_map, Nat.reduceAdd, Nat.reduceEqDiff, Nat.reduceBEq, Nat.reduceLeDiff, Int.reduceBEq, reduceCtorEq, ↓reduceIte];refine ⟨oM, dC, ?_⟩;apply ik <;> intro hf
   ·have e : l.findIdx? (fun x => s == x) = some k := by
     rw [List.findIdx?_eq_some_iff_getElem];exact ⟨hlt, hf, fun j hj => by rw [hinv j oM hj]; decide⟩
    rw [e] at hR;rw [← hR]
   ·refine ⟨l.length - (k + 1), _, oM, Wk.less ?_, k + 1, oM, rfl, ?_, rfl⟩
    ·simp only [go_sem, wrap64s k oM, Nat.reduceAdd, Nat.reduceEqDiff, Nat.reduceBEq, Nat.reduceLeDiff, Int.reduceBEq, reduceCtorEq, ↓reduceIte]
    ·intro j h1 hj;by_cases e : j = k
     ·subst e; exact hf
     ·exact hinv j h1 oM
  ·have hd := dF hlt;simp only [go_sem, hd, Nat.reduceAdd, Nat.reduceEqDiff, Nat.reduceBEq, Nat.reduceLeDiff, Int.reduceBEq, reduceCtorEq, ↓reduceIte];have e : l.findIdx? (fun x => s == x) = none := by
    rw [List.findIdx?_eq_none_iff];intro x hx;obtain ⟨j, hj, rfl⟩ := List.getElem_of_mem hx;exact hinv j hj oM
   rw [e] at hR;rw [← hR]
theorem walk99 (l : List Str) (s : Str) (hl : l.length ≤ 68719476736) : PT 99 [.list 1 (l.map .str), .str s] (.d (.bool (decide (s ∈ l)))) := by
 refine ok99.pc ?_;obtain ⟨n, hn, hc⟩ := walk199 l s hl;have c := hc.call trivial;simp only [go_sem, ir99, simprocAttr];refine wn c ?_;simp only [go_sem, hn, simprocAttr]
def undS (p n : Str) : Str := if p = [] then n else (p ++ [46]) ++ n
theorem undS_len (p n : Str) : (undS p n).length ≤ p.length + n.length + 1 := by
 unfold undS;split
 ·omega
 ·simp; omega
theorem walk202 (p n : Str) (h : p.length + n.length + 1 ≤ 68719476736) : PT 202 [.str p, .str n] (.d (.str (undS p n))) := by
 refine ok202.pc ?_;simp only [go_sem, ir202, simprocAttr];apply ik <;> intro hp
 ·have : p = [] := sX hp;subst this;rfl
 ·have hp' : ¬ p = [] := sX hp;rw [undS, if_neg hp']
  try refine zz3 ?_
  exact ⟨sO, sO⟩
end Go.Proofs
namespace Go.Proofs
open Go Av
def flatV (w : Val) : Prop := w.list = [] ∧ w.fields = []
mutual
def okT : Val → Prop
 | .mk _ _ _ t l f => t.length ≤ 4096 ∧ okTs l ∧ okTf f
def okTs : List Val → Prop
 | [] => True
 | v :: r => okT v ∧ okTs r
def okTf : List Fld → Prop
 | [] => True
 | .mk n v :: r => n.length ≤ 4096 ∧ okT v ∧ okTf r
end
theorem okT_eq (v : Val) : okT v ↔ v.text.length ≤ 4096 ∧ okTs v.list ∧ okTf v.fields := by cases v; rfl
mutual
def nmV : Val → Prop
 | .mk _ _ _ _ l f => nmVs l ∧ nmVf f
def nmVs : List Val → Prop
 | [] => True
 | v :: r => nmV v ∧ nmVs r
def nmVf : List Fld → Prop
 | [] => True
 | .mk n v :: r => n.length ≤ 4096 ∧ nmV v ∧ nmVf r
end
theorem nmV_eq (v : Val) : nmV v ↔ nmVs v.list ∧ nmVf v.fields := by cases v; rfl
theorem flat_nm {v : Val} (h1 : v.list = [] ∧ v.fields = []) : nmV v := by
 rw [nmV_eq, h1.1, h1.2];exact ⟨trivial, trivial⟩
theorem flat_sz {w : Val} (h : flatV w) : szV w ≤ 1000000 := by
 rw [szV_eq, h.1, h.2];simp [szVs, szFs]
def goodV (B : Nat) (v : Val) : Prop := szV v ≤ 1000000 ∧ v.text.length ≤ B ∧ nmV v
theorem goodV.flat {B : Nat} {v : Val} (h : flatV v) (ht : v.text = []) : goodV B v := ⟨flat_sz h, by rw [ht]; exact Nat.zero_le _, flat_nm h⟩
mutual
def bY : Typ → Nat
 | .mk _ _ _ _ _ e f => 100 + bYs e + bYf f
def bYs : List Typ → Nat
 | [] => 0
 | v :: r => bY v + bYs r
def bYf : List TFl → Nat
 | [] => 0
 | .mk _ n _ t _ :: r => n.length + bY t + bYf r
end
theorem bY_eq (t : Typ) : bY t = 100 + bYs t.elem + bYf t.fields := by cases t; rfl
theorem bYs_mem : ∀ {l : List Typ} {x : Typ}, x ∈ l → bY x ≤ bYs l
 | v :: r, x, hx => by
  simp only [bYs];rcases List.mem_cons.1 hx with rfl | hx
  ·omega
  ·have := bYs_mem hx; omega
theorem bYf_mem : ∀ {l : List TFl} {x : TFl}, x ∈ l → x.name.length + bY x.type ≤ bYf l
 | .mk a n b t d :: r, x, hx => by
  simp only [bYf];rcases List.mem_cons.1 hx with rfl | hx
  ·simp only [TFl.name, TFl.type]; omega
  ·have := bYf_mem hx; omega
mutual
def nmW : Val → Prop
 | .mk _ _ _ _ l f => nmWs l ∧ nmWf f
def nmWs : List Val → Prop
 | [] => True
 | v :: r => nmW v ∧ nmWs r
def nmWf : List Fld → Prop
 | [] => True
 | .mk n v :: r => n.length ≤ 2097152 ∧ nmW v ∧ nmWf r
end
theorem nmW_eq (v : Val) : nmW v ↔ nmWs v.list ∧ nmWf v.fields := by cases v; rfl
theorem nmWs_mem : ∀ {l : List Val}, nmWs l → ∀ x ∈ l, nmW x
 | v :: r, h, x, hx => by
  rcases List.mem_cons.1 hx with rfl | hx
  ·exact h.1
  ·exact nmWs_mem h.2 x hx
theorem nmWf_mem : ∀ {l : List Fld}, nmWf l → ∀ x ∈ l, x.name.length ≤ 2097152 ∧ nmW x.value
 | .mk n v :: r, h, x, hx => by
  rcases List.mem_cons.1 hx with rfl | hx
  ·exact ⟨h.1, h.2.1⟩
  ·exact nmWf_mem h.2.2 x hx
theorem nmWf_of : ∀ {l : List Fld}, (∀ x ∈ l, x.name.length ≤ 2097152 ∧ nmW x.value) → nmWf l
 | [], _ => trivial
 | .mk n v :: r, h => ⟨(h _ List.mem_cons_self).1, (h _ List.mem_cons_self).2, nmWf_of fun x hx => h x (List.mem_cons_of_mem _ hx)⟩
theorem nmWs_of : ∀ {l : List Val}, (∀ x ∈ l, nmW x) → nmWs l
 | [], _ => trivial
 | v :: r, h => ⟨h _ List.mem_cons_self, nmWs_of fun x hx => h x (List.mem_cons_of_mem _ hx)⟩
theorem flat_nmW {v : Val} (h : v.list = [] ∧ v.fields = []) : nmW v := (nmW_eq v).2 (by rw [h.1, h.2]; exact ⟨trivial, trivial⟩)
theorem tfR_name {t : Typ} {n : Str} (h : (tfR t n).2 = true) : (tfR t n).1.name = n := by
 unfold tfR at h ⊢;cases e : idxG n t.fields with
 | none => rw [e] at h; cases h
 | some i =>
  obtain ⟨hil, h2, _⟩ := List.findIdx?_eq_some_iff_getElem.1 e;simp only [List.getElem?_eq_getElem hil, Option.getD_some];simpa using h2
theorem nmW_field {v : Val} (h : nmW v) (n : Str) : nmW (fieldR v n).1 := by
 have hf := ((nmW_eq v).1 h).2;unfold fieldR;split
 ·exact flat_nmW ⟨rfl, rfl⟩
 ·cases e : idxF n v.fields with
  | none => exact flat_nmW ⟨rfl, rfl⟩
  | some i =>
   have hil : i < v.fields.length := by
    obtain ⟨h, _⟩ := List.findIdx?_eq_some_iff_getElem.1 e;exact h
   simp only [List.getElem?_eq_getElem hil, Option.map_some, Option.getD_some];exact (nmWf_mem hf _ (List.getElem_mem hil)).2
def recB (ft : Typ → Val → Bool) (t : Typ) (v : Val) : Bool :=
 (t.fields.all fun g => if (fieldR v g.name).2 = true then ft g.type (fieldR v g.name).1 else !(g.need != 2)) && v.fields.all fun x => (tfR t x.name).2
theorem step101 (ft : Typ → Val → Bool) (t : Typ) (v : Val) (p : Str) (b : Bool) (hb : p.length + bY t + 3000000 ≤ 68719476736) (hnv : nmW v)
  (h47 : ∀ g ∈ t.fields, ∀ y, nmW y → ∀ q c, q.length + bY g.type ≤ p.length + bY t → FCon 36 [encT g.type, encV y, .str q] c (c && ft g.type y)) : FCon 101 [encT t, encV v, .str p] b (b && recB ft t v) := by
 refine Con.of_fits ok101.has fun hfit => ?_
 have htl := (fits_T (hfit (encT t) sP)).2.2;have hvl := (fits_V3 (hfit (encV v) sP)).2.2;refine ok101.co (k := false) (closedTF b _) trivial ?_;have hnf := ((nmW_eq v).1 hnv).2;have hbe := bY_eq t;generalize hR : (b && recB ft t v) = R;unfold recB at hR;rw [encT_eq t, encV_eq v];simp only [go_sem, ir101, TF, List.map_cons, List.map_nil, simprocAttr];refine wpc_loop (fun n s => ∃ (k : Nat) (c : Bool), k ≤ t.fields.length ∧ n = t.fields.length - k ∧
   (c && (((t.fields.drop k).all fun g => if (fieldR v g.name).2 = true then ft g.type (fieldR v g.name).1 else !(g.need != 2)) && v.fields.all fun x => (tfR t x.name).2)) = R ∧
  s = ⟨[(0, .ref 1000 0), (3, .d (.str p)), (5, .ref 5 0), (6, .ref 6 0), (17, .d (.list 11 (t.fields.map encG))), (18, .d (.int .i64 t.fields.length)), (19, .d (.int .i64 k))],
   [(1000, .box [.clo (.func 35) [] [.ref 1001 0], .d (.bool (!c))]), (1001, .box [.d (.bool c)]), (5, bxT t), (6, bxV v)]⟩) ?_ ?_
 ·refine ⟨_, _, Wk.refl _, 0, b, Nat.zero_le _, rfl, hR, ?_⟩;simp only [List.length_map, bxT, bxV]
  try rfl
 ·rintro n s ⟨k, c, hk, rfl, hinv, rfl⟩;by_cases hlt : k < t.fields.length
  ·have hx := nth_encG hlt;have hd := dT hlt;rw [List.drop_eq_getElem_cons hlt, List.all_cons] at hinv;have hmem := List.getElem_mem hlt;have hgn := bYf_mem hmem;have c201 := (walk201 v t.fields[k].name).call (by simp [pureR]);have c202 := (walk202 p t.fields[k].name oM).call trivial;have hul := undS_len p t.fields[k].name;have c96 := (con96 (undS p t.fields[k].name) 5 c).to;have c36 := (h47 _ hmem (fieldR v t.fields[k].name).1 (nmW_field hnv _) (undS p t.fields[k].name) c oM).to;generalize undS p t.fields[k].name = q at *;generalize fieldR v t.fields[k].name = F at *;generalize t.fields[k] = g at *;generalize ft g.type F.1 = fb at *;rw [encV_eq v, encV_eq F.1] at c201;simp only [TF, List.map_cons, List.map_nil] at c36 c96;rw [encT_eq, encV_eq] at c36;refine zz31 ?_;refine ⟨oM, ?_⟩;refine wn c201 ?_;refine zz3 ?_;apply ik <;> intro h
   ·rw [if_pos h, Bool.and_assoc, ← Bool.and_assoc] at hinv
    try refine zz3 ?_
    refine wpsL_call rfl c202 trivial ?_;refine zz3 ?_;refine wpsL_call rfl c36 ⟨rfl, rfl, trivial⟩ ?_;refine zz3 ?_;refine ⟨dC, t.fields.length - (k + 1), _, oM, Wk.less ?_, k + 1, c && fb, oM, rfl, hinv, rfl⟩;exact zz16 trivial
   ·rw [if_neg (nF h), Bool.and_assoc, ← Bool.and_assoc] at hinv
    try refine zz3 ?_
    apply ik <;> intro hn
    ·rw [hn, Bool.not_true, Bool.and_false] at hinv
     try refine zz3 ?_
     refine wn c202 ?_;refine zz3 ?_;refine wn c96 ?_;refine zz3 ?_;refine ⟨t.fields.length - (k + 1), _, oM, Wk.less ?_, k + 1, false, oM, rfl, hinv, rfl⟩;exact zz16 trivial
    ·rw [hn, Bool.not_false, Bool.and_true] at hinv
     try refine zz3 ?_
     refine ⟨t.fields.length - (k + 1), _, oM, Wk.less ?_, k + 1, c, oM, rfl, hinv, rfl⟩;exact zz16 trivial
  ·have hd := dF hlt;rw [List.drop_eq_nil_of_le oM, List.all_nil, Bool.true_and] at hinv;simp only [go_sem, hd, bxT, bxV, simprocAttr];refine wpc_loop (fun n s => ∃ (k : Nat) (d : Bool), k ≤ v.fields.length ∧ n = v.fields.length - k ∧ (d && ((v.fields.drop k).all fun x => (tfR t x.name).2)) = R ∧
    s = ⟨[(0, .ref 1000 0), (3, .d (.str p)), (5, .ref 5 0), (51, .d (.list 7 (v.fields.map encF))), (52, .d (.int .i64 v.fields.length)), (53, .d (.int .i64 k))],
     [(1000, .box [.clo (.func 35) [] [.ref 1001 0], .d (.bool (!d))]), (1001, .box [.d (.bool d)]), (5, bxT t), (6, bxV v)]⟩) ?_ ?_
   ·refine ⟨_, _, Wk.refl _, 0, c, Nat.zero_le _, rfl, hinv, ?_⟩;simp only [List.length_map, bxT, bxV]
    try rfl
   ·clear hinv;rintro n s ⟨k, c, hk, rfl, hinv, rfl⟩;by_cases hlt : k < v.fields.length
    ·have hx := nth_encF hlt;have hd := dT hlt;rw [List.drop_eq_getElem_cons hlt, List.all_cons, ← Bool.and_assoc] at hinv;have hmem := List.getElem_mem hlt;have hxn := (nmWf_mem hnf _ hmem).1;have c102 := (walk102 t v.fields[k].name).call (by simp [pureR]);have c202 := (walk202 p v.fields[k].name oM).call trivial;have c96 := (con96 (undS p v.fields[k].name) 6 c).to;generalize undS p v.fields[k].name = q at *;generalize tfR t v.fields[k].name = T at *;generalize v.fields[k] = x at *;rw [encT_eq t, encG_eq T.1] at c102;simp only [TF, List.map_cons, List.map_nil] at c96;refine zz31 ?_;refine ⟨oM, ?_⟩;refine wn c102 ?_;refine zz3 ?_;apply ik <;> intro h
     ·rw [show T.2 = false by simpa using h, Bool.and_false] at hinv
      try refine zz3 ?_
      refine wn c202 ?_;refine zz3 ?_;refine wn c96 ?_;refine zz3 ?_;refine ⟨v.fields.length - (k + 1), _, oM, Wk.less ?_, k + 1, false, oM, rfl, hinv, rfl⟩;exact zz16 trivial
     ·rw [show T.2 = true by simpa using h, Bool.and_true] at hinv
      try refine zz3 ?_
      refine ⟨v.fields.length - (k + 1), _, oM, Wk.less ?_, k + 1, c, oM, rfl, hinv, rfl⟩;exact zz16 trivial
    ·have hd := dF hlt;rw [List.drop_eq_nil_of_le oM, List.all_nil, Bool.and_true] at hinv;subst hinv;exact zz46 trivial
def fitS (ft : Typ → Val → Bool) (t : Typ) (v : Val) : Bool :=
 if ((decide (t.kind < 1) || decide (t.kind > 10)) || v.kind != t.kind) = true then false
 else if formB v = false then false
 else if t.kind = 2 ∨ t.kind = 6 ∨ t.kind = 7 then inB t v.int
 else if t.kind = 3 then (if (v.scale != t.scale) = true then false else inB t v.int)
 else if t.kind = 4 ∨ t.kind = 5 then (if (t.kind == 4 && decide (((t.words.length : Nat) : Int) > 0)) = true then decide (v.text ∈ t.words) else inB t v.text.length)
 else if t.kind = 8 then inB t v.list.length && v.list.all fun x => if (((t.elem.length : Nat) : Int) == 1) = true then ft ((t.elem[0]?).getD ty0) x else false
 else if t.kind = 9 then recB ft t v
 else if t.kind = 10 then (if (tfR t v.text).2 = true then ft (tfR t v.text).1.type ((v.list[0]?).getD zeroV) else false)
 else true
theorem step36 (ft : Typ → Val → Bool) (t : Typ) (v : Val) (p : Str) (b : Bool) (hb : p.length + bY t + 3000000 ≤ 68719476736)
  (h8 : ∀ e ∈ t.elem, ∀ y ∈ v.list, ∀ q c, q.length + bY e ≤ p.length + bY t → FCon 36 [encT e, encV y, .str q] c (c && ft e y))
  (h9 : ∀ c, FCon 101 [encT t, encV v, .str p] c (c && recB ft t v))
  (h10 : ∀ g ∈ t.fields, ∀ y ∈ v.list, ∀ q c, q.length + bY g.type ≤ p.length + bY t → FCon 36 [encT g.type, encV y, .str q] c (c && ft g.type y)) : FCon 36 [encT t, encV v, .str p] b (b && fitS ft t v) := by
 refine Con.of_fits ok36c.has fun hfit => ?_
 have htl := fits_T (hfit (encT t) sP);have hvl := fits_V3 (hfit (encV v) sP);refine ok36c.co (k := false) (closedTF b _) trivial ?_;have hbe := bY_eq t;generalize hR : (b && fitS ft t v) = R;unfold fitS at hR;have c96 := fun n => (con96 p n true).to
 have c97 := (walk97 v).call trivial;have c98 := fun n => (con98 t p n true).to
 have c101 := (h9 true).to;have c102 := (walk102 t v.text).call (by simp [pureR]);have hf10 : v.kind = 10 → formB v = true → v.list.length = 1 := by
  intro h hf;unfold formB at hf;rw [h] at hf;simp only [Int.reduceBEq, Bool.false_eq_true, ↓reduceIte, Bool.and_eq_true, Bool.not_eq_true', bne_eq_false_iff_eq] at hf;have := hf.1;omega
 simp only [Bool.true_and] at c98 c101;simp only [TF, List.map_cons, List.map_nil] at c96 c98 c101;rw [encV_eq v] at c97 c101;rw [encT_eq t] at c98 c101 c102;rw [encT_eq t, encV_eq v];cases b with
 | false =>
  rw [Bool.false_and] at hR;subst hR;simp only [go_sem, ir36c, TF, Bool.not_false, Bool.not_true, List.map_cons, List.map_nil, simprocAttr]
 | true =>
 rw [Bool.true_and] at hR;simp only [go_sem, ir36c, TF, Bool.not_true, List.map_cons, List.map_nil, simprocAttr];simp only [go_sem, b36_3, simprocAttr];refine sq (decide (t.kind > 10)) ?_ ?_
 ·exact zz3 trivial
 refine zz3 ?_;refine sq (v.kind != t.kind) ?_ ?_
 ·exact zz3 trivial
 refine zz3 ?_;apply ik <;> intro h
 ·rw [if_pos h] at hR;subst hR;simp only [go_sem, b36_0, simprocAttr];refine wn (c96 1) ?_;exact zz8 trivial
 rw [if_neg (nF h)] at hR;simp only [go_sem, b36_2, simprocAttr];refine wn c97 ?_;refine zz3 ?_;apply ik <;> intro hf
 ·rw [if_pos (sX hf)] at hR;subst hR
  try simp only [go_sem, b36_1, simprocAttr]
  refine wn (c96 8) ?_;exact zz8 trivial
 have hf' : formB v = true := sX hf;rw [if_neg (by rw [hf']; exact Bool.noConfusion)] at hR;have hkk : 1 ≤ t.kind ∧ t.kind ≤ 10 ∧ v.kind = t.kind := by
  simp only [Bool.or_eq_false_iff, decide_eq_false_iff_not, bne_eq_false_iff_eq] at h;omega
 clear h
 try refine zz3 ?_
 have hks : t.kind = 1 ∨ t.kind = 2 ∨ t.kind = 3 ∨ t.kind = 4 ∨ t.kind = 5 ∨ t.kind = 6 ∨ t.kind = 7 ∨ t.kind = 8 ∨ t.kind = 9 ∨ t.kind = 10 := oM;rcases hks with hk | hk | hk | hk | hk | hk | hk | hk | hk | hk
 ·
  have e2 : (t.kind == 2) = false := by rw [hk]; rfl
  have e6 : (t.kind == 6) = false := by rw [hk]; rfl
  have e7 : (t.kind == 7) = false := by rw [hk]; rfl
  have e3 : (t.kind == 3) = false := by rw [hk]; rfl
  have e4 : (t.kind == 4) = false := by rw [hk]; rfl
  have e5 : (t.kind == 5) = false := by rw [hk]; rfl
  have e8 : (t.kind == 8) = false := by rw [hk]; rfl
  have e9 : (t.kind == 9) = false := by rw [hk]; rfl
  have e10 : (t.kind == 10) = false := by rw [hk]; rfl
  simp only [hk, Int.reduceEq, or_false, or_true, false_or, true_or, ↓reduceIte] at hR
  try refine zz11 ?_
  refine zz15 ?_;refine zz17 ?_;refine zz25 ?_;refine zz32 ?_;refine zz47 ?_;subst hR
  try simp only [go_sem, TF, Bool.not_true, simprocAttr]
 ·
  have e2 : (t.kind == 2) = true := by rw [hk]; rfl
  have e6 : (t.kind == 6) = false := by rw [hk]; rfl
  have e7 : (t.kind == 7) = false := by rw [hk]; rfl
  have e3 : (t.kind == 3) = false := by rw [hk]; rfl
  have e4 : (t.kind == 4) = false := by rw [hk]; rfl
  have e5 : (t.kind == 5) = false := by rw [hk]; rfl
  have e8 : (t.kind == 8) = false := by rw [hk]; rfl
  have e9 : (t.kind == 9) = false := by rw [hk]; rfl
  have e10 : (t.kind == 10) = false := by rw [hk]; rfl
  simp only [hk, Int.reduceEq, or_false, or_true, false_or, true_or, ↓reduceIte] at hR
  try refine zz11 ?_
  refine zz33 ?_;subst hR;refine wn (c98 v.int) ?_;exact zz8 trivial
 ·
  have e2 : (t.kind == 2) = false := by rw [hk]; rfl
  have e6 : (t.kind == 6) = false := by rw [hk]; rfl
  have e7 : (t.kind == 7) = false := by rw [hk]; rfl
  have e3 : (t.kind == 3) = true := by rw [hk]; rfl
  have e4 : (t.kind == 4) = false := by rw [hk]; rfl
  have e5 : (t.kind == 5) = false := by rw [hk]; rfl
  have e8 : (t.kind == 8) = false := by rw [hk]; rfl
  have e9 : (t.kind == 9) = false := by rw [hk]; rfl
  have e10 : (t.kind == 10) = false := by rw [hk]; rfl
  simp only [hk, Int.reduceEq, or_false, or_true, false_or, true_or, ↓reduceIte] at hR
  try refine zz11 ?_
  refine zz15 ?_;simp only [go_sem, e2, e6, e7, e3, e4, e5, e8, e9, e10, b36_8, simprocAttr];apply ik <;> intro h
  ·rw [if_pos h] at hR;subst hR;simp only [go_sem, b36_6, simprocAttr];refine wn (c96 3) ?_;exact zz8 trivial
  ·rw [if_neg (nF h)] at hR;subst hR;simp only [go_sem, b36_7, simprocAttr];refine wn (c98 v.int) ?_;exact zz8 trivial
 ·
  have e2 : (t.kind == 2) = false := by rw [hk]; rfl
  have e6 : (t.kind == 6) = false := by rw [hk]; rfl
  have e7 : (t.kind == 7) = false := by rw [hk]; rfl
  have e3 : (t.kind == 3) = false := by rw [hk]; rfl
  have e4 : (t.kind == 4) = true := by rw [hk]; rfl
  have e5 : (t.kind == 5) = false := by rw [hk]; rfl
  have e8 : (t.kind == 8) = false := by rw [hk]; rfl
  have e9 : (t.kind == 9) = false := by rw [hk]; rfl
  have e10 : (t.kind == 10) = false := by rw [hk]; rfl
  simp only [hk, Int.reduceEq, or_false, or_true, false_or, true_or, ↓reduceIte] at hR
  try refine zz11 ?_
  refine zz15 ?_;refine zz17 ?_;refine zz49 ?_;have c99 := (walk99 t.words v.text htl.1).call trivial;apply ik <;> intro h
  ·rw [if_pos (sX h)] at hR;simp only [go_sem, b36_10, simprocAttr];refine wn c99 ?_;refine zz3 ?_;apply ik <;> intro hw
   ·rw [show decide (v.text ∈ t.words) = false by simpa using hw] at hR;subst hR
    try simp only [go_sem, b36_9, simprocAttr]
    refine wn (c96 4) ?_;exact zz8 trivial
   ·rw [show decide (v.text ∈ t.words) = true by simpa using hw] at hR;subst hR
    try simp only [go_sem, TF, Bool.not_true, simprocAttr]
  ·rw [if_neg (sX h)] at hR;subst hR;refine zz50 ?_;refine wn (c98 v.text.length) ?_;exact zz8 trivial
 ·
  have e2 : (t.kind == 2) = false := by rw [hk]; rfl
  have e6 : (t.kind == 6) = false := by rw [hk]; rfl
  have e7 : (t.kind == 7) = false := by rw [hk]; rfl
  have e3 : (t.kind == 3) = false := by rw [hk]; rfl
  have e4 : (t.kind == 4) = false := by rw [hk]; rfl
  have e5 : (t.kind == 5) = true := by rw [hk]; rfl
  have e8 : (t.kind == 8) = false := by rw [hk]; rfl
  have e9 : (t.kind == 9) = false := by rw [hk]; rfl
  have e10 : (t.kind == 10) = false := by rw [hk]; rfl
  simp only [hk, Int.reduceEq, or_false, or_true, false_or, true_or, ↓reduceIte] at hR
  try refine zz11 ?_
  refine zz15 ?_;refine zz17 ?_;refine zz49 ?_;have c99 := (walk99 t.words v.text htl.1).call trivial;rw [if_neg sP] at hR;subst hR
  try refine zz50 ?_
  refine wn (c98 v.text.length) ?_;exact zz8 trivial
 ·
  have e2 : (t.kind == 2) = false := by rw [hk]; rfl
  have e6 : (t.kind == 6) = true := by rw [hk]; rfl
  have e7 : (t.kind == 7) = false := by rw [hk]; rfl
  have e3 : (t.kind == 3) = false := by rw [hk]; rfl
  have e4 : (t.kind == 4) = false := by rw [hk]; rfl
  have e5 : (t.kind == 5) = false := by rw [hk]; rfl
  have e8 : (t.kind == 8) = false := by rw [hk]; rfl
  have e9 : (t.kind == 9) = false := by rw [hk]; rfl
  have e10 : (t.kind == 10) = false := by rw [hk]; rfl
  simp only [hk, Int.reduceEq, or_false, or_true, false_or, true_or, ↓reduceIte] at hR
  try refine zz11 ?_
  refine zz15 ?_;refine zz33 ?_;subst hR;refine wn (c98 v.int) ?_;exact zz8 trivial
 ·
  have e2 : (t.kind == 2) = false := by rw [hk]; rfl
  have e6 : (t.kind == 6) = false := by rw [hk]; rfl
  have e7 : (t.kind == 7) = true := by rw [hk]; rfl
  have e3 : (t.kind == 3) = false := by rw [hk]; rfl
  have e4 : (t.kind == 4) = false := by rw [hk]; rfl
  have e5 : (t.kind == 5) = false := by rw [hk]; rfl
  have e8 : (t.kind == 8) = false := by rw [hk]; rfl
  have e9 : (t.kind == 9) = false := by rw [hk]; rfl
  have e10 : (t.kind == 10) = false := by rw [hk]; rfl
  simp only [hk, Int.reduceEq, or_false, or_true, false_or, true_or, ↓reduceIte] at hR
  try refine zz11 ?_
  refine zz15 ?_;refine zz33 ?_;subst hR;refine wn (c98 v.int) ?_;exact zz8 trivial
 ·
  have e2 : (t.kind == 2) = false := by rw [hk]; rfl
  have e6 : (t.kind == 6) = false := by rw [hk]; rfl
  have e7 : (t.kind == 7) = false := by rw [hk]; rfl
  have e3 : (t.kind == 3) = false := by rw [hk]; rfl
  have e4 : (t.kind == 4) = false := by rw [hk]; rfl
  have e5 : (t.kind == 5) = false := by rw [hk]; rfl
  have e8 : (t.kind == 8) = true := by rw [hk]; rfl
  have e9 : (t.kind == 9) = false := by rw [hk]; rfl
  have e10 : (t.kind == 10) = false := by rw [hk]; rfl
  simp only [hk, Int.reduceEq, or_false, or_true, false_or, true_or, ↓reduceIte] at hR
  try refine zz11 ?_
  refine zz15 ?_;refine zz17 ?_;refine zz25 ?_;simp only [go_sem, e2, e6, e7, e3, e4, e5, e8, e9, e10, b36_15, simprocAttr]
  try simp only [List.length_map]
  refine wn (c98 v.list.length) ?_;simp only [go_sem, List.length_map, TF, simprocAttr];refine wpc_loop (fun n s => ∃ (k : Nat) (c : Bool), k ≤ v.list.length ∧ n = v.list.length - k ∧
    (c && ((v.list.drop k).all fun x => if (((t.elem.length : Nat) : Int) == 1) = true then ft ((t.elem[0]?).getD ty0) x else false)) = R ∧
   s = ⟨[(0, .ref 1000 0), (3, .d (.str p)), (5, .ref 5 0), (110, .d (.list 6 (v.list.map encV))), (111, .d (.int .i64 v.list.length)), (112, .d (.int .i64 k))],
    [(1000, .box [.clo (.func 35) [] [.ref 1001 0], .d (.bool (!c))]), (1001, .box [.d (.bool c)]), (5, bxT t), (6, bxV v)]⟩) ?_ ?_
  ·refine ⟨_, _, Wk.less ?_, 0, inB t v.list.length, Nat.zero_le _, rfl, hR, rfl⟩;simp only [go_sem, bxT, bxV, simprocAttr]
   try rfl
  ·clear hR;rintro n s ⟨k, c, hk2, rfl, hinv, rfl⟩;by_cases hlt : k < v.list.length
   ·have hx := nth_encV hlt;have hd := dT hlt;rw [List.drop_eq_getElem_cons hlt, List.all_cons, ← Bool.and_assoc] at hinv;have hmem := List.getElem_mem hlt;have c100 := call100 (k : Int) oM oM;have hil := Lib.itoa_length_le (k : Int) oM oM;generalize Lib.itoa (k : Int) = it at *;have hq1 : (p ++ [91]).length ≤ 68719476736 := by simp only [List.length_append, List.length_cons, List.length_nil]; omega
    have hq2 : ((p ++ [91]) ++ it).length ≤ 68719476736 := by simp only [List.length_append, List.length_cons, List.length_nil]; omega
    have hq3 : (((p ++ [91]) ++ it) ++ [93]).length ≤ 68719476736 := by simp only [List.length_append, List.length_cons, List.length_nil]; omega
    refine zz31 ?_;refine ⟨oM, hq1, ?_⟩;refine wn c100 ?_;refine zz28 ?_;refine ⟨hq2, hq3, ?_⟩;apply ik <;> intro h1
    ·rw [if_pos h1] at hinv;have he0 : 0 < t.elem.length := by
      simp only [beq_iff_eq] at h1;omega
     have hx0 := nth_encT he0;have c36 := (h8 t.elem[0] (List.getElem_mem he0) v.list[k] hmem (((p ++ [91]) ++ it) ++ [93]) c (by have := bYs_mem (List.getElem_mem he0); simp only [List.length_append, List.length_cons, List.length_nil]; omega)).to;have e0 : t.elem[0] = (t.elem[0]?).getD ty0 := by rw [List.getElem?_eq_getElem he0, Option.getD_some]
     rw [e0] at c36 hx0;generalize ft ((t.elem[0]?).getD ty0) v.list[k] = fb at *;simp only [TF, List.map_cons, List.map_nil] at c36;rw [encT_eq, encV_eq] at c36;simp only [go_sem, hx0, Int.toNat_zero, List.length_map, b36_13, simprocAttr];refine ⟨oM, wn c36 ?_⟩;refine zz3 ?_;refine ⟨v.list.length - (k + 1), _, oM, Wk.less ?_, k + 1, c && fb, oM, rfl, hinv, rfl⟩;exact zz16 trivial
    ·rw [if_neg (nF h1), Bool.and_false] at hinv;have c96 := (con96 (((p ++ [91]) ++ it) ++ [93]) 1 c).to;simp only [TF, List.map_cons, List.map_nil] at c96;simp only [go_sem, b36_14, simprocAttr];refine wn c96 ?_;refine zz3 ?_;refine ⟨v.list.length - (k + 1), _, oM, Wk.less ?_, k + 1, false, oM, rfl, hinv, rfl⟩;exact zz16 trivial
   ·have hd := dF hlt;rw [List.drop_eq_nil_of_le oM, List.all_nil, Bool.and_true] at hinv;subst hinv;exact zz46 trivial
 ·
  have e2 : (t.kind == 2) = false := by rw [hk]; rfl
  have e6 : (t.kind == 6) = false := by rw [hk]; rfl
  have e7 : (t.kind == 7) = false := by rw [hk]; rfl
  have e3 : (t.kind == 3) = false := by rw [hk]; rfl
  have e4 : (t.kind == 4) = false := by rw [hk]; rfl
  have e5 : (t.kind == 5) = false := by rw [hk]; rfl
  have e8 : (t.kind == 8) = false := by rw [hk]; rfl
  have e9 : (t.kind == 9) = true := by rw [hk]; rfl
  have e10 : (t.kind == 10) = false := by rw [hk]; rfl
  simp only [hk, Int.reduceEq, or_false, or_true, false_or, true_or, ↓reduceIte] at hR
  try refine zz11 ?_
  refine zz15 ?_;refine zz17 ?_;refine zz25 ?_;refine zz32 ?_;simp only [go_sem, e2, e6, e7, e3, e4, e5, e8, e9, e10, b36_16, simprocAttr];subst hR;refine wn c101 ?_;exact zz8 trivial
 ·
  have e2 : (t.kind == 2) = false := by rw [hk]; rfl
  have e6 : (t.kind == 6) = false := by rw [hk]; rfl
  have e7 : (t.kind == 7) = false := by rw [hk]; rfl
  have e3 : (t.kind == 3) = false := by rw [hk]; rfl
  have e4 : (t.kind == 4) = false := by rw [hk]; rfl
  have e5 : (t.kind == 5) = false := by rw [hk]; rfl
  have e8 : (t.kind == 8) = false := by rw [hk]; rfl
  have e9 : (t.kind == 9) = false := by rw [hk]; rfl
  have e10 : (t.kind == 10) = true := by rw [hk]; rfl
  simp only [hk, Int.reduceEq, or_false, or_true, false_or, true_or, ↓reduceIte] at hR
  try refine zz11 ?_
  refine zz15 ?_;refine zz17 ?_;refine zz25 ?_;refine zz32 ?_;refine zz47 ?_;simp only [go_sem, e2, e6, e7, e3, e4, e5, e8, e9, e10, b36_19, simprocAttr];have hl1 := hf10 (hkk.2.2.trans hk) hf';have hl0 : 0 < v.list.length := oM;have hx0 := nth_encV hl0;have hlm := List.getElem_mem hl0;have hin := @tfR_mem t v.text;have hnn : (tfR t v.text).2 = true → v.text.length + bY (tfR t v.text).1.type ≤ bYf t.fields := by
   intro h;have h2 := bYf_mem (hin h);rw [tfR_name h] at h2;exact h2
  generalize tfR t v.text = T at *;have c36 : T.2 = true → _ := fun h => (h10 T.1 (hin h) v.list[0] hlm ((p ++ [63]) ++ v.text) true (by have := hnn h; simp only [List.length_append, List.length_cons, List.length_nil]; omega)).to
  rw [List.getElem?_eq_getElem hl0, Option.getD_some] at hR;generalize ft T.1.type v.list[0] = fb at *;rw [encG_eq T.1] at c102;refine wn c102 ?_;refine zz3 ?_;apply ik <;> intro h
  ·rw [if_pos h] at hR;subst hR;have c36 := c36 h;have hn := hnn h;simp only [TF, List.map_cons, List.map_nil, Bool.true_and] at c36;rw [encT_eq, encV_eq] at c36;have hq1 : (p ++ [63]).length ≤ 68719476736 := by simp only [List.length_append, List.length_cons, List.length_nil]; omega
   have hq2 : ((p ++ [63]) ++ v.text).length ≤ 68719476736 := by simp only [List.length_append, List.length_cons, List.length_nil]; omega
   simp only [go_sem, hx0, Int.toNat_zero, List.length_map, b36_17, simprocAttr];refine ⟨oM, hq1, hq2, wn c36 ?_⟩;exact zz8 trivial
  ·rw [if_neg (nF h)] at hR;subst hR;simp only [go_sem, b36_18, simprocAttr];refine wn (c96 7) ?_;exact zz8 trivial
def fitF : Nat → Typ → Val → Bool
 | 0, _, _ => true
 | k + 1, t, v => fitS (fitF k) t v
theorem walk36 : ∀ (k : Nat) (t : Typ) (v : Val) (p : Str) (b : Bool), szT t ≤ k → nmW v → p.length + bY t + 3000000 ≤ 68719476736 → FCon 36 [encT t, encV v, .str p] b (b && fitF k t v)
 | 0, t, v, p, b, h, _, _ => by rw [szT_eq] at h; omega
 | k + 1, t, v, p, b, h, hn, hp => by
  have e := szT_eq t;have hbe := bY_eq t;obtain ⟨n1, n2⟩ := (nmW_eq v).1 hn;refine step36 (fitF k) t v p b hp (fun x hx y hy q c hq => ?_) (fun c => ?_) (fun g hg y hy q c hq => ?_)
  ·have a := szTs_mem x hx;exact walk36 k x y q c oM (nmWs_mem n1 y hy) oM
  ·refine step101 (fitF k) t v p c hp hn (fun g hg y hy q d hq => ?_);have a := szGs_mem g hg;exact walk36 k g.type y q d oM hy oM
  ·have a := szGs_mem g hg;exact walk36 k g.type y q c oM (nmWs_mem n1 y hy) oM
theorem walk8 (N : Nat) (t : Typ) (v : Val) (hs : szT t ≤ N) (hy : bY t ≤ 60000000000) (hn : nmW v) : PT 8 [encT t, encV v] (.d (.bool (fitF N t v))) := by
 refine ok8.pc ?_;have c := (walk36 N t v [] true hs hn (by simp only [List.length_nil]; omega)).at 6 5 dC;rw [Bool.true_and] at c;generalize fitF N t v = R at *;rw [encT_eq t, encV_eq v] at c ⊢;simp only [List.map_cons, List.map_nil, Bool.not_true] at c;simp only [go_sem, ir8, simprocAttr];refine wn c ?_;exact zz3 trivial
mutual
def okY : Typ → Prop
 | .mk _ _ _ _ _ e f => okYs e ∧ okYf f
def okYs : List Typ → Prop
 | [] => True
 | v :: r => okY v ∧ okYs r
def okYf : List TFl → Prop
 | [] => True
 | .mk _ n _ t d :: r => (n.length ≤ 2097152 ∧ okY t ∧ ∀ x ∈ d, nmW x) ∧ okYf r
end
theorem okY_eq (t : Typ) : okY t ↔ okYs t.elem ∧ okYf t.fields := by cases t; rfl
theorem okYs_mem : ∀ {l : List Typ}, okYs l → ∀ x ∈ l, okY x
 | v :: r, h, x, hx => by
  rcases List.mem_cons.1 hx with rfl | hx
  ·exact h.1
  ·exact okYs_mem h.2 x hx
theorem okYf_mem : ∀ {l : List TFl}, okYf l → ∀ x ∈ l, x.name.length ≤ 2097152 ∧ okY x.type ∧ ∀ y ∈ x.dflt, nmW y
 | .mk a n b t d :: r, h, x, hx => by
  rcases List.mem_cons.1 hx with rfl | hx
  ·exact h.1
  ·exact okYf_mem h.2 x hx
theorem nm_innR {ch : Typ → Val → Val} {t : Typ} {l : List Fld} (hl : nmWf l) (hc : ∀ g ∈ t.fields, ∀ y, nmW y → nmW (ch g.type y)) : nmWf (innR ch t l) := by
 refine nmWf_of fun x hx => ?_
 obtain ⟨y, hy, rfl⟩ := List.mem_map.1 hx;obtain ⟨a, b⟩ := nmWf_mem hl y hy;split
 ·rename_i h;exact ⟨a, hc _ (tfR_mem h) _ b⟩
 ·exact ⟨a, b⟩
theorem nm_zero : nmW zeroV := flat_nmW ⟨rfl, rfl⟩
theorem nm_get {l : List Val} (h : ∀ x ∈ l, nmW x) (i : Nat) : nmW ((l[i]?).getD zeroV) := by
 cases e : l[i]? with
 | none => exact nm_zero
 | some x => exact h x (List.mem_of_getElem? e)
theorem nm_mk {k i s : Int} {t : Str} {l : List Val} {f : List Fld} (h1 : nmWs l) (h2 : nmWf f) : nmW (.mk k i s t l f) := ⟨h1, h2⟩
theorem nm_dflA : ∀ {l : List TFl} {fs : List Fld}, nmWf fs → okYf l → nmWf (dflA fs l)
 | [], _, h, _ => h
 | g :: r, fs, h, hy => by
  rw [dflA];have hg := okYf_mem hy g List.mem_cons_self;have hr : okYf r := by cases g; exact hy.2
  refine nm_dflA ?_ hr;unfold dfl1;split
  ·exact h
  split
  ·exact h
  ·refine nmWf_of fun x hx => ?_
   rcases List.mem_append.1 hx with hx | hx
   ·exact nmWf_mem h x (List.mem_of_mem_take hx)
   rcases List.mem_cons.1 hx with rfl | hx
   ·exact ⟨hg.1, nm_get (fun y hy => hg.2.2 y hy) 0⟩
   ·exact nmWf_mem h x (List.mem_of_mem_drop hx)
theorem nm_cm : ∀ (k : Nat) (t : Typ) (v : Val), okY t → nmW v → nmW (cmF k t v)
 | 0, t, v, _, h => h
 | k + 1, t, v, hy, h => by
  obtain ⟨y1, y2⟩ := (okY_eq t).1 hy;obtain ⟨n1, n2⟩ := (nmW_eq v).1 h;have ih := nm_cm k;rw [cmF];unfold cmS;split
  ·exact h
  split
  ·exact nm_mk n1 (nm_dflA (nm_innR n2 fun g hg y hy => ih _ _ (okYf_mem y2 g hg).2.1 hy) y2)
  unfold innF;split
  ·rename_i h8;have he0 : 0 < t.elem.length := by
    simp only [Bool.and_eq_true, beq_iff_eq] at h8;omega
   rw [List.getElem?_eq_getElem he0, Option.getD_some];refine nm_mk (nmWs_of fun x hx => ?_) n2;obtain ⟨y, hy, rfl⟩ := List.mem_map.1 hx;exact ih _ _ (okYs_mem y1 _ (List.getElem_mem he0)) (nmWs_mem n1 y hy)
  split
  ·split
   ·rename_i hT;refine nm_mk ⟨ih _ _ (okYf_mem y2 _ (tfR_mem hT)).2.1 (nm_get (fun x hx => nmWs_mem n1 x hx) 0), trivial⟩ n2
   ·exact h
  ·exact h
def cmpR (N : Nat) (t : Typ) (v : Val) : Val × Int := if fitF N t (cmF N t v) = true then (cmF N t v, 0) else (zeroV, 18)
theorem walk52 (N : Nat) (t : Typ) (v : Val) (hs : szT t ≤ N) (hN : N ≤ 400000000) (hb : bY t ≤ 60000000000) (hy : okY t) (hn : nmW v) (hv : szV v ≤ 400000000) :
  PT 52 [encT t, encV v] (.tup [.d (encV (cmpR N t v).1), .d (.int .i64 (cmpR N t v).2)]) := by
 refine ok52.pc ?_;have c127 := (walk127 N t v hs hN hv).call trivial;have c8 := (walk8 N t (cmF N t v) hs hb (nm_cm N t v hy hn)).call trivial;have c54 := (p54 (cmF N t v)).call trivial;generalize hR : cmpR N t v = R;unfold cmpR at hR;generalize cmF N t v = C at *;rw [encT_eq, encV_eq v, encV_eq C] at c127;rw [encT_eq, encV_eq C] at c8;rw [encV_eq C] at c54;rw [encT_eq, encV_eq v, encV_eq R.1];simp only [go_sem, ir52, simprocAttr];refine wn c127 ?_;refine zz3 ?_;refine wn c8 ?_;refine zz3 ?_;apply ik <;> intro h
 ·rw [if_neg (sX h)] at hR;subst hR;rfl
 ·rw [if_pos (sX h)] at hR;subst hR
  try refine zz3 ?_
  refine wn c54 ?_;exact zz3 trivial
end Go.Proofs
namespace Go.Proofs
open Go Av
open Go.Proofs.YtiekiedlkehccaaGreatDoor.Rows (uptoBulk uptoBulkAll)
theorem c21 : Tryz.prog.cellsOf 22 = 1 := kR
theorem c22 : Tryz.prog.cellsOf 23 = 1 := kR
theorem c23 : Tryz.prog.cellsOf 24 = 1 := kR
theorem c25 : Tryz.prog.cellsOf 26 = 7 := kR
theorem c72 : Tryz.prog.cellsOf 92 = 11 := kR
theorem encT_len (a : Typ) : (encT a).cells.length = 7 := by rw [encT_eq]; rfl
theorem encG_len (a : TFl) : (encG a).cells.length = 11 := by rw [encG_eq]; rfl
mutual
def wtT : Typ → Nat
 | .mk _ _ _ _ _ e f => 1 + wtTs e + wtGs f
def wtTs : List Typ → Nat
 | [] => 0
 | v :: r => wtT v + wtTs r
def wtGs : List TFl → Nat
 | [] => 0
 | .mk _ n _ t _ :: r => (n.length + wtT t) + wtGs r
end
mutual
theorem szT_le : ∀ t : Typ, szT t ≤ wtT t
 | .mk _ _ _ _ _ e f => by have := szTs_le e; have := szGs_le f; simp only [szT, wtT]; omega
theorem szTs_le : ∀ l : List Typ, szTs l ≤ wtTs l
 | [] => Nat.le_refl _
 | v :: r => by have := szT_le v; have := szTs_le r; simp only [szTs, wtTs]; omega
theorem szGs_le : ∀ l : List TFl, szGs l ≤ wtGs l
 | [] => Nat.le_refl _
 | .mk _ n _ t _ :: r => by have := szT_le t; have := szGs_le r; simp only [szGs, wtGs]; omega
end
mutual
theorem bY_le : ∀ t : Typ, bY t ≤ 100 * wtT t
 | .mk _ _ _ _ _ e f => by have := bYs_le e; have := bYf_le f; simp only [bY, wtT]; omega
theorem bYs_le : ∀ l : List Typ, bYs l ≤ 100 * wtTs l
 | [] => Nat.le_refl _
 | v :: r => by have := bY_le v; have := bYs_le r; simp only [bYs, wtTs]; omega
theorem bYf_le : ∀ l : List TFl, bYf l ≤ 100 * wtGs l
 | [] => Nat.le_refl _
 | .mk _ n _ t _ :: r => by have := bY_le t; have := bYf_le r; simp only [bYf, wtGs]; omega
end
theorem wtTs_sum : ∀ l : List Typ, wtTs l = (l.map wtT).sum
 | [] => rfl
 | v :: r => by simp only [wtTs, List.map_cons, List.sum_cons, wtTs_sum r]
theorem wtGs_sum : ∀ l : List TFl, wtGs l = (l.map fun g => g.name.length + wtT g.type).sum
 | [] => rfl
 | .mk _ n _ t _ :: r => by simp only [wtGs, List.map_cons, List.sum_cons, wtGs_sum r, TFl.name, TFl.type]
theorem okYs_of' : ∀ {l : List Typ}, (∀ x ∈ l, okY x) → okYs l
 | [], _ => trivial
 | v :: r, h => ⟨h v List.mem_cons_self, okYs_of' fun x hx => h x (List.mem_cons_of_mem _ hx)⟩
theorem okYf_of' : ∀ {l : List TFl}, (∀ x ∈ l, x.name.length ≤ 2097152 ∧ okY x.type ∧ ∀ y ∈ x.dflt, nmW y) → okYf l
 | [], _ => trivial
 | .mk a n b t d :: r, h => ⟨h _ List.mem_cons_self, okYf_of' fun x hx => h x (List.mem_cons_of_mem _ hx)⟩
section
variable {H : Type} {enc : TypeId × Value → H} {w : World} {base : Nat} {spare : Nat → Bool} {held : Bool}
theorem cr_strM {P : Program} {t : TypeId} {fuel : Nat} {cs : List Value} {x : DataW H × List MemPlace} (ht : P.underlying t = some .string) (h : DataW.trod enc P w base spare held fuel t cs = some x) (hb : uptoBulk x.1 ≤ 1048576) :
  ∃ s : List UInt8, s.length + 1 ≤ uptoBulk x.1 ∧ CR (old w) w [.str s] cs := by
 obtain ⟨s, rfl, rfl, _⟩ := DataW.trod_string ht h;simp only [uptoBulk] at hb;have e : (Value.string s) = .string ⟨s.data.toList.toArray⟩ := sP;refine ⟨s.data.toList, by simp only [uptoBulk]; omega, ?_⟩;rw [e];exact .one rfl (.str _ oM)
theorem read_valB (fuel : Nat) : ∀ (cs : List Value) (x : DataW H × List MemPlace), DataW.trod enc Tryz.prog w base spare held fuel 30 cs = some x → uptoBulk x.1 ≤ 1048576 → ∃ a : Val, ((okV a ∧ nmW a) ∧ szV a ≤ uptoBulk x.1) ∧ CR (old w) w (encV a).cells cs := by
 induction fuel using Nat.strongRecOn with
 | _ fuel ih =>
  intro cs x h hb;obtain ⟨xs, n, rfl, rfl, hl, hlen, hf⟩ := DataW.trod_struct Tryz.underlying30 h;rw [c19] at hl;have h0 := fld hf 0 3 0 rfl c3;have h1 := fld hf 1 3 1 rfl c3;have h2 := fld hf 2 3 2 rfl c3;have h3 := fld hf 3 9 3 rfl c9;have h4 := fld hf 4 27 4 rfl c31;have h5 := fld hf 5 28 5 rfl c27
  match xs, hlen, cs, hl with
  | [y0, y1, y2, y3, y4, y5], _, [a0, a1, a2, a3, a4, a5], _ =>
   simp only [List.map_cons, List.map_nil, uptoBulk, uptoBulkAll] at hb;obtain ⟨k, g0⟩ := cr_int Tryz.underlying3 (show DataW.trod enc Tryz.prog w base spare held n 3 [a0] = some y0 from h0);obtain ⟨i, g1⟩ := cr_int Tryz.underlying3 (show DataW.trod enc Tryz.prog w base spare held n 3 [a1] = some y1 from h1);obtain ⟨s, g2⟩ := cr_int Tryz.underlying3 (show DataW.trod enc Tryz.prog w base spare held n 3 [a2] = some y2 from h2);obtain ⟨t, _, g3⟩ := cr_str Tryz.underlying9 (show DataW.trod enc Tryz.prog w base spare held n 9 [a3] = some y3 from h3) oM;obtain ⟨l, e4, o4, z4, g4⟩ := cr_sliceM (encA := encV) (ok := fun a => okV a ∧ nmW a) (m := szV) Tryz.underlying27 c19 dC encV_len (show DataW.trod enc Tryz.prog w base spare held n 27 [a4] = some y4 from h4) oM
    (fun m cs' y hm hy hyb => ih m oM cs' y hy hyb)
   obtain ⟨f, e5, o5, z5, g5⟩ := cr_sliceM (encA := encF) (ok := fun f => okF f ∧ f.name.length ≤ 2097152 ∧ nmW f.value) (m := fun f => szV f.value) Tryz.underlying28 c106 dC encF_len (show DataW.trod enc Tryz.prog w base spare held n 28 [a5] = some y5 from h5) oM
    (fun m cs' y hm hy hyb => by
     obtain ⟨xs, m', rfl, rfl, hl, hlen, hf⟩ := DataW.trod_struct Tryz.underlying113 hy;rw [c106] at hl;have h0 := fld hf 0 9 0 rfl c9;have h1 := fld hf 1 30 1 rfl c19
     match xs, hlen, cs', hl with
     | [y0, y1], _, [a0, a1, a2, a3, a4, a5, a6], _ =>
      simp only [List.map_cons, List.map_nil, uptoBulk, uptoBulkAll] at hyb;obtain ⟨nm, hnm, g0⟩ := cr_str Tryz.underlying9 (show DataW.trod enc Tryz.prog w base spare held m' 9 [a0] = some y0 from h0) oM;obtain ⟨v, ov, g1⟩ := ih m' oM [a1, a2, a3, a4, a5, a6] y1 h1 oM;refine ⟨.mk nm v, ⟨⟨by simpa only [okF] using ov.1.1, by show nm.length ≤ _; omega, ov.1.2⟩, by show szV v ≤ _; have := ov.2; simp only [List.map_cons, List.map_nil, uptoBulk, uptoBulkAll]; omega⟩, ?_⟩;have := g0.append g1;simpa only [encF, Dat.cells, List.singleton_append] using this)
   refine ⟨.mk k i s t l f, ⟨⟨by simp only [okV]; exact ⟨oM, oM, okVs_of fun a ha => (o4 a ha).1, okFs_of fun a ha => (o5 a ha).1⟩, ?_⟩, ?_⟩, ?_⟩
   ·exact ⟨nmWs_of fun a ha => (o4 a ha).2, nmWf_of fun a ha => (o5 a ha).2⟩
   ·simp only [szV, szVs_sum l, szFs_sum f, List.map_cons, List.map_nil, uptoBulk, uptoBulkAll];have := bulk_one y0.1;omega
   have := g0.append (g1.append (g2.append (g3.append (g4.append g5))));simpa only [encV_eq, Val.kind, Val.int, Val.scale, Val.text, Val.list, Val.fields, Dat.cells, List.singleton_append, List.cons_append, List.nil_append] using this
theorem read_typB (fuel : Nat) : ∀ (cs : List Value) (x : DataW H × List MemPlace), DataW.trod enc Tryz.prog w base spare held fuel 26 cs = some x → uptoBulk x.1 ≤ 1048576 → ∃ a : Typ, (okY a ∧ wtT a ≤ uptoBulk x.1) ∧ CR (old w) w (encT a).cells cs := by
 induction fuel using Nat.strongRecOn with
 | _ fuel ih =>
  intro cs x h hb;obtain ⟨xs, n, rfl, rfl, hl, hlen, hf⟩ := DataW.trod_struct Tryz.underlying26 h;rw [c25] at hl;have h0 := fld hf 0 3 0 rfl c3;have h1 := fld hf 1 3 1 rfl c3;have h2 := fld hf 2 3 2 rfl c3;have h3 := fld hf 3 3 3 rfl c3;have h4 := fld hf 4 22 4 rfl c21;have h5 := fld hf 5 23 5 rfl c22;have h6 := fld hf 6 24 6 rfl c23
  match xs, hlen, cs, hl with
  | [y0, y1, y2, y3, y4, y5, y6], _, [a0, a1, a2, a3, a4, a5, a6], _ =>
   simp only [List.map_cons, List.map_nil, uptoBulk, uptoBulkAll] at hb;obtain ⟨k, g0⟩ := cr_int Tryz.underlying3 (show DataW.trod enc Tryz.prog w base spare held n 3 [a0] = some y0 from h0);obtain ⟨i, g1⟩ := cr_int Tryz.underlying3 (show DataW.trod enc Tryz.prog w base spare held n 3 [a1] = some y1 from h1);obtain ⟨j, g2⟩ := cr_int Tryz.underlying3 (show DataW.trod enc Tryz.prog w base spare held n 3 [a2] = some y2 from h2);obtain ⟨s, g3⟩ := cr_int Tryz.underlying3 (show DataW.trod enc Tryz.prog w base spare held n 3 [a3] = some y3 from h3);obtain ⟨wd, _, _, g4⟩ := cr_slice (encA := Dat.str) (ok := fun _ => True) Tryz.underlying22 c9 dC (fun _ => rfl) (show DataW.trod enc Tryz.prog w base spare held n 22 [a4] = some y4 from h4) oM
    (fun m cs' y _ hy hyb => by
     obtain ⟨t, _, g⟩ := cr_str Tryz.underlying9 hy hyb;exact ⟨t, trivial, g⟩)
   obtain ⟨el, _, o5, z5, g5⟩ := cr_sliceM (encA := encT) (ok := okY) (m := wtT) Tryz.underlying23 c25 dC encT_len (show DataW.trod enc Tryz.prog w base spare held n 23 [a5] = some y5 from h5) oM
    (fun m cs' y hm hy hyb => ih m oM cs' y hy hyb)
   obtain ⟨f, _, o6, z6, g6⟩ := cr_sliceM (encA := encG) (ok := fun g => g.name.length ≤ 2097152 ∧ okY g.type ∧ ∀ y ∈ g.dflt, nmW y) (m := fun g => g.name.length + wtT g.type) Tryz.underlying24 c72 dC encG_len (show DataW.trod enc Tryz.prog w base spare held n 24 [a6] = some y6 from h6) oM
    (fun m cs' y hm hy hyb => by
     obtain ⟨xs, m', rfl, rfl, hl, hlen, hf⟩ := DataW.trod_struct Tryz.underlying92 hy;rw [c72] at hl;have h0 := fld hf 0 3 0 rfl c3;have h1 := fld hf 1 9 1 rfl c9;have h2 := fld hf 2 3 2 rfl c3;have h3 := fld hf 3 26 3 rfl c25;have h4 := fld hf 4 27 10 rfl c31
     match xs, hlen, cs', hl with
     | [y0, y1, y2, y3, y4], _, [a0, a1, a2, a3, a4, a5, a6, a7, a8, a9, a10], _ =>
      simp only [List.map_cons, List.map_nil, uptoBulk, uptoBulkAll] at hyb;obtain ⟨nu, g0⟩ := cr_int Tryz.underlying3 (show DataW.trod enc Tryz.prog w base spare held m' 3 [a0] = some y0 from h0);obtain ⟨nm, hnm, g1⟩ := cr_strM Tryz.underlying9 (show DataW.trod enc Tryz.prog w base spare held m' 9 [a1] = some y1 from h1) oM;obtain ⟨ne, g2⟩ := cr_int Tryz.underlying3 (show DataW.trod enc Tryz.prog w base spare held m' 3 [a2] = some y2 from h2);obtain ⟨ty, oty, g3⟩ := ih m' oM [a3, a4, a5, a6, a7, a8, a9] y3 h3 oM;obtain ⟨df, _, odf, g4⟩ := cr_slice (encA := encV) (ok := nmW) Tryz.underlying27 c19 dC encV_len (show DataW.trod enc Tryz.prog w base spare held m' 27 [a10] = some y4 from h4) oM
       (fun m cs' y _ hy hyb => by
        obtain ⟨v, ov, g⟩ := read_valB m cs' y hy hyb;exact ⟨v, ov.1.2, g⟩)
      refine ⟨.mk nu nm ne ty df, ⟨⟨by show nm.length ≤ _; omega, oty.1, odf⟩, ?_⟩, ?_⟩
      ·show nm.length + wtT ty ≤ _;have := oty.2;simp only [List.map_cons, List.map_nil, uptoBulk, uptoBulkAll];omega
      ·have := g0.append (g1.append (g2.append (g3.append g4)));simpa only [encG, Dat.cells, List.singleton_append, List.cons_append, List.nil_append, List.append_assoc] using this)
   refine ⟨.mk k i j s wd el f, ⟨⟨okYs_of' o5, okYf_of' o6⟩, ?_⟩, ?_⟩
   ·simp only [wtT, wtTs_sum el, wtGs_sum f, List.map_cons, List.map_nil, uptoBulk, uptoBulkAll];have := bulk_one y0.1;omega
   have := g0.append (g1.append (g2.append (g3.append (g4.append (g5.append g6)))));simpa only [encT_eq, Typ.kind, Typ.min, Typ.max, Typ.scale, Typ.words, Typ.elem, Typ.fields, Dat.cells, List.singleton_append, List.cons_append, List.nil_append] using this
end
end Go.Proofs
namespace Go.Proofs.YtiekiedlkehccaaGreatDoor
open Go Go.Proofs Av Go.ChangeShapes Go.WideShapes Go.ChangeAt Go.RowKit
theorem open_valB {H : Type} {enc : TypeId × Value → H} {w : World} {r : Reach} {base b0 : Nat} {spare : Nat → Bool} {held : Bool} {v : Value} {d : DataW H} {ps : List MemPlace}
  (hval : Value.okWide Tryz.prog w r b0 30 v) (hd : DataW.Trod enc Tryz.prog w base spare held 30 v d ps) (hb : Rows.uptoBulk d ≤ 1048576) : ∃ e : Val, ((okV e ∧ nmW e) ∧ szV e ≤ Rows.uptoBulk d) ∧ Rep (Av.old w) w (encV e) v := by
 obtain ⟨fuel, hf⟩ := hd;obtain ⟨m, hm, hc⟩ := read_valB fuel _ (d, ps) hf hb;refine ⟨m, hm, ?_⟩;unfold Value.okWide at hval;rw [Tryz.underlying30] at hval;obtain ⟨cs, rfl, _, _⟩ := hval;obtain ⟨h1, h2, h3⟩ := hc;have e : (Value.agg cs).cells = cs := rfl;rw [e] at h1 h2 h3;have h1' : (encV m).cells.length = cs.size := sX h1;rw [encV_eq] at h1' h3 ⊢;exact .agg _ _ h1' h2 (fun i c v hc hv => h3 i c v hc (sX hv))
theorem open_typB {H : Type} {enc : TypeId × Value → H} {w : World} {r : Reach} {base b0 : Nat} {spare : Nat → Bool} {held : Bool} {v : Value} {d : DataW H} {ps : List MemPlace}
  (hval : Value.okWide Tryz.prog w r b0 26 v) (hd : DataW.Trod enc Tryz.prog w base spare held 26 v d ps) (hb : Rows.uptoBulk d ≤ 1048576) : ∃ e : Typ, (okY e ∧ wtT e ≤ Rows.uptoBulk d) ∧ Rep (Av.old w) w (encT e) v := by
 obtain ⟨fuel, hf⟩ := hd;obtain ⟨m, hm, hc⟩ := read_typB fuel _ (d, ps) hf hb;refine ⟨m, hm, ?_⟩;unfold Value.okWide at hval;rw [Tryz.underlying26] at hval;obtain ⟨cs, rfl, _, _⟩ := hval;obtain ⟨h1, h2, h3⟩ := hc;have e : (Value.agg cs).cells = cs := rfl;rw [e] at h1 h2 h3;have h1' : (encT m).cells.length = cs.size := sX h1;rw [encT_eq] at h1' h3 ⊢;exact .agg _ _ h1' h2 (fun i c v hc hv => h3 i c v hc (sX hv))
end Go.Proofs.YtiekiedlkehccaaGreatDoor
namespace Go.Proofs
open Go Av
open Av.Y
def ir11 : Ic := q (R (ox 2 0<|ox 3 1<|oz 4 0<|N) [0,1,4])<|q (q (R (oL 15 5 2<|oL 16 5 3<|oo 17 (.bls 5 [t 15,t 16])<|oh 18 17<|oz 19 0<|N) [15,16])<|D (.block 0<|.loop (q (.reg (ot 20 .lss 19 18<|N))<|q (D (I 20 S (E 0)) [20])<|q (D (.block 1<|q (R (oa true 21 5 17 19<|oL 22 5 21<|oN 6 [.int .i64 0,.nil 9,.nil 7,.nil 4,.nil 20]<|oS 5 6 22<|N) [21,22])<|q (R (oL 23 5 6<|cl 24 18 [t 23]<|om 7 24<|N) [6,23,24])<|q (R (om 25 7<|oi 26 .neq 25 0<|N) [25])<|D (I 26 (q (R (om 27 7<|om 4 27<|N) [2,3,17,18,19,7,26,27])<|.ret) S) [7,26]) [])<|R (oi 28 .add 19 1<|om 19 28<|N) [28])) [17,18,19,20,6,7])<|q (R (cl 29 38 []<|om 8 29<|N) [29])<|q (q (R (of 30 2 4<|ol 31 30<|oh 32 31<|oz 33 0<|N) [30])<|D (.block 2<|.loop (q (.reg (ot 34 .lss 33 32<|N))<|q (D (I 34 S (E 2)) [34])<|q (D (.block 3<|q (R (oa true 35 20 31 33<|oL 36 20 35<|oN 10 [.str [],.int .i64 0,.int .i64 0,.int .i64 0,.int .i64 0,.int .i64 0,.int .i64 0,.str [],.int .i64 0,.int .i64 0,.int .i64 0,.int .i64 0,.nil 1,.nil 7,.nil 11,.nil 7,.nil 5,.nil 6,.nil 2,.nil 1]<|oS 20 10 36<|N) [35,36])<|q (R (of 37 3 4<|ol 38 37<|oo 39 (.fnv (.func 40) [] [t 10])<|cl 40 39 [t 38,t 39]<|om 11 40<|N) [37,38,39,40])<|q (q (R (oL 41 20 10<|cl 42 41 [t 41]<|og 43 42<|om 44 43<|.sc 44 false (om 45 11<|oi 46 .lss 45 0<|N) (t 46) 47 N) [41,42,43,44])<|D (I 47 (E 3) S) [47])<|q (R (of 48 3 4<|ol 49 48<|om 50 11<|oa true 51 20 49 50<|oL 52 20 51<|oN 12 [.str [],.int .i64 0,.int .i64 0,.int .i64 0,.int .i64 0,.int .i64 0,.int .i64 0,.str [],.int .i64 0,.int .i64 0,.int .i64 0,.int .i64 0,.nil 1,.nil 7,.nil 11,.nil 7,.nil 5,.nil 6,.nil 2,.nil 1]<|oS 20 12 52<|N) [11,48,49,50,51,52])<|q (q (R (of 53 10 1<|ol 54 53<|of 55 12 1<|ol 56 55<|ot 57 .neq 54 56<|N) [53,54,55,56])<|D (I 57 (q (R (oz 4 33<|N) [2,3,8,31,32,33,10,12,57])<|.ret) S) [57])<|q (q (R (om 59 8<|of 60 10 1<|ol 61 60<|oo 62 (.lkp .i .nilFn (t 59) (t 61) true)<|om 58 62<|oe 63 58 0<|oe 64 58 1<|om 13 63<|om 14 64<|N) [59,60,61,62,58,63,64])<|q (R (om 65 14<|om 66 65<|.sc 66 true (om 67 13<|oL 68 20 10<|oL 69 20 12<|.call (some 70) (.dyn (t 67)) [t 68,t 69] (og 71 70<|N)) (t 71) 72 N) [13,14,65,66])<|D (I 72 (q (R (oz 4 33<|N) [2,3,8,31,32,33,10,12,72])<|.ret) S) [72])<|q (D (.regd [(5,6),(5,7)] (oL 73 20 10<|cl 74 42 [t 73]<|om 75 74<|.sc 75 true (oL 76 5 2<|oL 77 20 10<|cl 78 43 [t 76,t 77]<|oL 79 5 3<|oL 80 20 12<|cl 81 43 [t 79,t 80]<|cl 82 13 [t 78,t 81]<|og 83 82<|N) (t 83) 84 N)) [10,12,73,74,75])<|D (I 84 (q (R (oz 4 20<|N) [2,3,8,31,32,33,84])<|.ret) S) [84]) [10,11,47])<|R (oi 85 .add 33 1<|om 33 85<|N) [85])) [2,3,8,31,32,33,34,10,11])<|q (.reg (oz 4 0<|N))<|.ret
theorem ok11 : FT 11 86 ir11 [.tmp 4] := .o Tryz.func11
def ir12 : Ic := q (R (ox 3 0<|ox 4 1<|oN 6 [.nil 3,.nil 6,.nil 13]<|oz 7 0<|N) [0,1,7])<|q (q (R (oL 26 5 3<|oL 27 5 4<|cl 28 11 [t 26,t 27]<|om 8 28<|N) [26,27,28])<|q (R (om 29 8<|oi 30 .neq 29 0<|N) [29])<|D (I 30 (q (R (oo 31 (.bld [.nil 3,.nil 6,.nil 13] [])<|om 32 8<|oS 3 6 31<|om 7 32<|N) [2,3,4,8,30,31,32])<|.ret) S) [8,30])<|q (q (R (om 33 2<|oh 34 33<|of 35 3 4<|ol 36 35<|oh 37 36<|ot 38 .neq 34 37<|N) [33,34,35,36,37])<|D (I 38 (q (R (oo 39 (.bld [.nil 3,.nil 6,.nil 13] [])<|oS 3 6 39<|oz 7 2<|N) [2,3,4,38,39])<|.ret) S) [38])<|q (R (oL 40 5 4<|cl 41 44 [t 40]<|om 9 41<|N) [40,41])<|q (q (R (of 42 3 4<|ol 43 42<|oh 44 43<|oz 45 0<|N) [42])<|D (.block 0<|.loop (q (.reg (ot 46 .lss 45 44<|N))<|q (D (I 46 S (E 0)) [46])<|q (D (.block 1<|q (R (om 47 45<|oa true 48 20 43 45<|oL 49 20 48<|oN 11 [.str [],.int .i64 0,.int .i64 0,.int .i64 0,.int .i64 0,.int .i64 0,.int .i64 0,.str [],.int .i64 0,.int .i64 0,.int .i64 0,.int .i64 0,.nil 1,.nil 7,.nil 11,.nil 7,.nil 5,.nil 6,.nil 2,.nil 1]<|om 10 47<|oS 20 11 49<|N) [47,48,49])<|q (R (om 51 9<|of 52 11 0<|ol 53 52<|of 54 11 1<|ol 55 54<|oo 56 (.bld [.str [],.int .i64 0] [(0,1,t 53),(1,1,t 55)])<|oo 57 (.lkp (.p .s .i) (.int .i64 0) (t 51) (t 56) true)<|om 50 57<|oe 58 50 0<|oe 59 50 1<|om 12 58<|om 13 59<|N) [51,52,53,54,55,56,57,50,58,59,12])<|q (R (om 60 13<|og 61 60<|om 62 61<|.sc 62 true (of 63 11 1<|ol 64 63<|oi 65 .eql 64 10<|N) (t 65) 66 (om 67 66<|.sc 67 true (om 68 2<|om 69 10<|oa true 70 3 68 69<|oL 71 3 70<|cl 72 34 [t 71]<|oi 73 .gtr 72 0<|N) (t 73) 74 N)) [11,10,13,60,61,62,66,67])<|D (I 74 (q (R (oo 75 (.bld [.nil 3,.nil 6,.nil 13] [])<|oS 3 6 75<|oz 7 36<|N) [2,3,4,9,43,44,45,74,75])<|.ret) S) [74]) [])<|R (oi 76 .add 45 1<|om 45 76<|N) [76])) [43,44,45,46,11,10])<|q (R (of 77 4 4<|ol 78 77<|oh 79 78<|oo 80 (.mks 3 [.int .i64 0,.int .i64 0,.nil 10] (t 79) (t 79))<|oo 81 (.bld [.nil 3,.nil 6,.nil 13] [(0,1,t 80)])<|oN 14 [.nil 3,.nil 6,.nil 13]<|oS 3 14 81<|N) [77,78,79,80,81])<|q (R (oo 82 .mkm<|om 15 82<|N) [82])<|q (q (R (of 83 3 4<|ol 84 83<|oh 85 84<|oz 86 0<|N) [83])<|D (.block 2<|.loop (q (.reg (ot 87 .lss 86 85<|N))<|q (D (I 87 S (E 2)) [87])<|q (D (.block 3<|q (R (om 88 86<|oa true 89 20 84 86<|oL 90 20 89<|oN 17 [.str [],.int .i64 0,.int .i64 0,.int .i64 0,.int .i64 0,.int .i64 0,.int .i64 0,.str [],.int .i64 0,.int .i64 0,.int .i64 0,.int .i64 0,.nil 1,.nil 7,.nil 11,.nil 7,.nil 5,.nil 6,.nil 2,.nil 1]<|om 16 88<|oS 20 17 90<|N) [88,89,90])<|q (R (om 92 9<|of 93 17 0<|ol 94 93<|of 95 17 1<|ol 96 95<|oo 97 (.bld [.str [],.int .i64 0] [(0,1,t 94),(1,1,t 96)])<|oo 98 (.lkp (.p .s .i) (.int .i64 0) (t 92) (t 97) true)<|om 91 98<|oe 99 91 0<|oe 100 91 1<|om 18 99<|om 19 100<|N) [92,93,94,95,96,97,98,91,99,100])<|q (q (R (om 101 19<|og 102 101<|N) [19,101])<|D (I 102 (q (q (R (om 103 2<|om 104 16<|oa true 105 3 103 104<|oL 106 3 105<|cl 107 16 [t 106]<|oh 108 107<|oz 109 0<|N) [16,18,102,103,104,105,106])<|D (.block 4<|.loop (q (.reg (ot 110 .lss 109 108<|N))<|q (D (I 110 S (E 4)) [110])<|q (D (.block 5<|q (R (oa true 111 10 107 109<|oL 112 10 111<|oN 21 [.int .i64 0,.nil 1,.int .i64 0,.nil 1,.int .i64 0,.int .i64 0,.int .i64 0,.str [],.nil 6,.nil 7]<|oS 10 21 112<|N) [111,112])<|q (D (.regd [(1,5),(1,6)] (of 113 14 1<|ol 114 113<|oL 115 10 21<|of 116 17 0<|ol 117 116<|cl 118 45 [t 115,t 117,.k (.str [114,101,109,111,118,101,100])]<|oo 119 (.bls 6 [t 118])<|oo 120 (.app 6 (t 114) (t 119))<|of 121 14 1<|os 121 120<|N)) [113,114,115,116,117,118,119,120,121])<|R (of 122 14 2<|ol 123 122<|oL 124 10 21<|of 125 17 0<|ol 126 125<|of 127 3 0<|ol 128 127<|oo 129 (.bld [.int .i64 0,.nil 1,.int .i64 0,.nil 1,.int .i64 0,.int .i64 0,.int .i64 0,.str [],.nil 6,.nil 7,.str [],.str [],.int .i64 0] [(0,10,t 124),(10,1,t 126),(11,1,.k (.str [114,101,109,111,118,101,100])),(12,1,t 128)])<|oo 130 (.bls 13 [t 129])<|oo 131 (.app 13 (t 123) (t 130))<|of 132 14 2<|os 132 131<|N) [21,122,123,124,125,126,127,128,129,130,131,132]) [])<|R (oi 133 .add 109 1<|om 109 133<|N) [133])) [17,107,108,109,110])<|E 3) S) [102])<|q (R (om 134 2<|om 135 16<|oa true 136 3 134 135<|oL 137 3 136<|cl 138 46 [t 137]<|oN 22 [.int .i64 0,.int .i64 0,.nil 10]<|oS 3 22 138<|N) [16,134,135,136,137,138])<|q (q (R (oL 139 20 17<|cl 140 42 [t 139]<|N) [139])<|D (I 140 (q (R (oz 23 0<|N) [140,23])<|q (D (.regd [(2,3),(2,5),(2,7),(2,8),(0,10),(1,10),(2,10),(3,10),(5,10),(7,10),(8,10),(9,10),(0,11),(1,11),(2,11),(3,11),(5,11),(7,11),(8,11),(9,11),(10,11)] (oL 141 5 3<|oL 142 20 17<|cl 143 43 [t 141,t 142]<|oL 144 5 4<|of 145 4 4<|ol 146 145<|om 147 18<|oa true 148 20 146 147<|oL 149 20 148<|cl 150 43 [t 144,t 149]<|oN 24 vT<|oN 25 vT<|oS 7 24 143<|oS 7 25 150<|N)) [17,141,142,143,144,145,146,147,148,149,150])<|q (R (oL 152 3 22<|oo 153 (.fnv (.func 48) [] [t 24,t 25])<|cl 154 47 [t 152,t 153]<|om 151 154<|oe 155 151 0<|oe 156 151 1<|oS 3 22 155<|om 23 156<|N) [24,25,152,153,154,151,155,156])<|q (R (om 157 23<|oi 158 .neq 157 0<|N) [23,157])<|D (I 158 (q (R (oo 159 (.bld [.nil 3,.nil 6,.nil 13] [])<|oS 3 6 159<|oz 7 20<|N) [2,3,4,9,14,15,84,85,86,18,22,158,159])<|.ret) S) [158]) S) [17,140])<|q (R (om 160 15<|om 161 18<|oo 162 (.lkp .i (.bool false) (t 160) (t 161) false)<|og 163 162<|N) [160,161,162])<|D (I 163 (R (of 164 14 0<|ol 165 164<|om 166 18<|om 167 15<|om 168 18<|oL 169 3 22<|oa true 170 3 165 166<|oS 3 170 169<|on (.mpu .i (t 167) (t 168) (B true))<|N) [18,22,163,164,165,166,167,168,169,170]) S) [18,22,163]) [])<|R (oi 171 .add 86 1<|om 86 171<|N) [171])) [2,3,4,9,15,84,85,86,87])<|q (R (oL 172 3 14<|oS 3 6 172<|oz 7 0<|N) [14,172])<|.ret
theorem ok12 : FT 12 173 ir12 [.cell 6 (some 3), .tmp 7] := .o Tryz.func12
def ir38 : Ic := q (R (ok 0 (.k .nilMap)<|N) [0])<|q (.reg (ok 1 (.k (.fn (.func 108) [] []))<|N))<|q (R (oo 2 .mkm<|om 3 1<|on (.mpu .i (t 2) (i 4) (t 3))<|om 4 1<|on (.mpu .i (t 2) (i 6) (t 4))<|on (.mpu .i (t 2) (i 5) (.k (.fn (.func 110) [] [])))<|on (.mpu .i (t 2) (i 9) (.k (.fn (.func 111) [] [])))<|on (.mpu .i (t 2) (i 10) (.k (.fn (.func 111) [] [])))<|om 5 2<|om 0 5<|N) [1,2,3,4,5])<|.ret
theorem ok38 : FT 38 6 ir38 [.tmp 0] := .o Tryz.func38
def ir39 : Ic := q (R (oz 4 0<|N) [4])<|q (q (R (om 6 0<|oh 7 6<|oz 8 0<|N) [6])<|D (.block 0<|.loop (q (.reg (ot 9 .lss 8 7<|N))<|q (D (I 9 S (E 0)) [9])<|q (D (.block 1<|q (R (om 10 8<|om 5 10<|N) [10])<|q (R (om 11 1<|om 12 0<|om 13 5<|oa true 14 20 12 13<|oL 15 20 14<|.call (some 16) (.dyn (t 11)) [t 15] N) [11,12,13,14,15])<|D (I 16 (q (R (om 17 5<|om 4 17<|N) [0,1,7,8,5,16,17])<|.ret) S) [5,16]) [])<|R (oi 18 .add 8 1<|om 8 18<|N) [18])) [0,1,7,8,9,10,5,11])<|q (.reg (oz 4 (-1)<|N))<|.ret
theorem ok39 : FT 39 19 ir39 [.tmp 4] := .o Tryz.func39
def ir40 : Ic := q (R (ox 2 0<|ow 3 false<|N) [0,3])<|q (R (oL 4 20 2<|cl 5 41 [t 4]<|om 6 5<|.sc 6 true (of 7 2 0<|ol 8 7<|of 9 1 0<|ol 10 9<|ot 11 .seq 8 10<|N) (t 11) 12 (om 3 12<|N)) [2,4,5,6,12])<|.ret
theorem ok40 : FT 40 13 ir40 [.tmp 3] := .o Tryz.func40
def ir41 : Ic := q (R (ox 1 0<|ow 2 false<|N) [0,2])<|q (R (of 3 1 1<|ol 4 3<|oi 5 .geq 4 1<|om 6 5<|.sc 6 true (of 7 1 1<|ol 8 7<|oi 9 .leq 8 14<|N) (t 9) 10 (om 2 10<|N)) [1,3,4,5,6,10])<|.ret
theorem ok41 : FT 41 11 ir41 [.tmp 2] := .o Tryz.func41
def ir42 : Ic := q (R (ox 1 0<|ow 2 false<|N) [0,2])<|q (R (oo 3 (.bls 1 [i 4,i 5,i 7,i 8,i 9,i 10])<|of 4 1 1<|ol 5 4<|cl 6 112 [t 3,t 5]<|om 2 6<|N) [1,3,4,5,6])<|.ret
theorem ok42 : FT 42 7 ir42 [.tmp 2] := .o Tryz.func42
def ir43 : Ic := q (R (ox 2 0<|ox 3 1<|oN 4 vT<|N) [0,1])<|q (q (R (of 5 3 2<|ol 6 5<|oi 7 .lss 6 0<|om 8 7<|.sc 8 false (of 9 3 2<|ol 10 9<|of 11 2 1<|ol 12 11<|oh 13 12<|ot 14 .geq 10 13<|N) (t 14) 15 N) [5,6,7,8])<|D (I 15 (q (R (oo 16 (.bld vT [])<|oS 7 4 16<|N) [2,3,15,16])<|.ret) S) [15])<|q (R (of 17 2 1<|ol 18 17<|of 19 3 2<|ol 20 19<|oa true 21 9 18 20<|of 22 21 2<|oL 23 7 22<|oS 7 4 23<|N) [2,3,17,18,19,20,21,22,23])<|.ret
theorem ok43 : FT 43 24 ir43 [.cell 4 (some 7)] := .o Tryz.func43
def asg44 : Ic := q (R (om 4 10<|N) [2,9,10])<|R (oN 5 [.str [],.int .i64 0,.int .i64 0,.int .i64 0,.int .i64 0,.int .i64 0,.int .i64 0,.str [],.int .i64 0,.int .i64 0,.int .i64 0,.int .i64 0,.nil 1,.nil 7,.nil 11,.nil 7,.nil 5,.nil 6,.nil 2,.nil 1]<|oS 20 5 11<|N) [11]
def body44 : Ic := D (.block 1<|R (ol 12 3<|of 13 5 0<|ol 14 13<|of 15 5 1<|ol 16 15<|oo 17 (.bld [.str [],.int .i64 0] [(0,1,t 14),(1,1,t 16)])<|om 18 4<|on (.mpu (.p .s .i) (t 12) (t 17) (t 18))<|N) [3,4,5,12,13,14,15,16,17,18]) [3,4,5,12,13,14,15,16,17,18]
noncomputable def ir44 : Ic := q (R (ox 1 0<|ok 2 (.k .nilMap)<|N) [0])<|q (R (oo 6 .mkm<|oN 3 [.nilMap]<|os 3 6<|N) [6])<|q (q (R (of 7 1 4<|ol 8 7<|cl 9 113 [t 8]<|N) [1,7,8])<|D (.block 0<|D (.rng (t 9) 20 30 #[10,11] (subC (codeOf Tryz.f44) [1,1,0,1,0,0]) (subC (codeOf Tryz.f44) [1,1,0,1,0,1]) asg44 body44) [2,9]) [2,9])<|q (R (ol 19 3<|om 2 19<|N) [3,19])<|.ret
theorem ok44 : FT 44 20 ir44 [.tmp 2] := .o Tryz.func44
def ir46 : Ic := q (R (ox 1 0<|oN 2 [.int .i64 0,.int .i64 0,.nil 10]<|N) [0])<|q (R (of 6 1 2<|ol 7 6<|oh 8 7<|oo 9 (.mks 10 [.int .i64 0,.int .i64 0,.int .i64 0,.str [],.nil 6,.nil 7,.int .i64 0,.int .i64 0,.nil 10,.nil 6] (i 0) (t 8))<|om 3 9<|N) [6,7,8,9])<|q (q (R (of 10 1 2<|ol 11 10<|oh 12 11<|oz 13 0<|N) [10])<|D (.block 0<|.loop (q (.reg (ot 14 .lss 13 12<|N))<|q (D (I 14 S (E 0)) [14])<|q (D (.block 1<|q (R (oa true 15 10 11 13<|oL 16 10 15<|oN 5 [.int .i64 0,.int .i64 0,.int .i64 0,.str [],.nil 6,.nil 7,.int .i64 0,.int .i64 0,.nil 10,.nil 6]<|oS 10 5 16<|N) [15,16])<|R (om 17 3<|oL 18 10 5<|cl 19 116 [t 18]<|oo 20 (.bls 10 [t 19])<|oo 21 (.app 10 (t 17) (t 20))<|om 3 21<|N) [5,17,18,19,20,21]) [])<|R (oi 22 .add 13 1<|om 13 22<|N) [22])) [11,12,13,14,5])<|q (R (om 23 3<|of 24 1 2<|os 24 23<|N) [3,23,24])<|q (R (oL 25 3 1<|oS 3 2 25<|N) [1,25])<|.ret
theorem ok46 : FT 46 26 ir46 [.cell 2 (some 3)] := .o Tryz.func46
def ir47 : Ic := q (R (ox 2 0<|oN 4 [.int .i64 0,.int .i64 0,.nil 10]<|oz 5 0<|N) [0,5])<|q (R (oL 13 3 2<|cl 14 46 [t 13]<|oN 6 [.int .i64 0,.int .i64 0,.nil 10]<|oS 3 6 14<|N) [2,13,14])<|q (q (R (of 15 6 2<|ol 16 15<|oh 17 16<|oz 18 0<|N) [15])<|D (.block 0<|.loop (q (.reg (ot 19 .lss 18 17<|N))<|q (D (I 19 S (E 0)) [19])<|q (D (.block 1<|q (R (oa true 20 10 16 18<|oL 21 10 20<|oN 8 [.int .i64 0,.int .i64 0,.int .i64 0,.str [],.nil 6,.nil 7,.int .i64 0,.int .i64 0,.nil 10,.nil 6]<|oS 10 8 21<|N) [20,21])<|q (R (of 22 8 8<|ol 23 22<|oh 24 23<|oz 25 0<|N) [22])<|D (.block 2<|.loop (q (.reg (ot 26 .lss 25 24<|N))<|q (D (I 26 S (E 2)) [26])<|q (D (.block 3<|q (R (om 27 25<|oa true 28 10 23 25<|oL 29 10 28<|oN 10 [.int .i64 0,.nil 1,.int .i64 0,.nil 1,.int .i64 0,.int .i64 0,.int .i64 0,.str [],.nil 6,.nil 7]<|om 9 27<|oS 10 10 29<|N) [27,28,29])<|q (R (om 31 1<|of 32 10 4<|oL 33 6 32<|.call (some 34) (.dyn (t 31)) [t 33] (om 30 34<|oe 35 30 0<|oe 36 30 1<|oN 11 v6<|oS 6 11 35<|om 12 36<|N)) [10,31,32,33,34,30,35,36])<|q (q (R (om 37 12<|oi 38 .neq 37 0<|N) [37])<|D (I 38 (q (R (oo 39 (.bld [.int .i64 0,.int .i64 0,.nil 10] [])<|om 40 12<|oS 3 4 39<|om 5 40<|N) [1,6,16,17,18,8,23,24,25,9,11,12,38,39,40])<|.ret) S) [12,38])<|R (of 41 8 8<|ol 42 41<|om 43 9<|oL 44 6 11<|oa true 45 10 42 43<|of 46 45 4<|oS 6 46 44<|N) [9,11,41,42,43,44,45,46]) [])<|R (oi 47 .add 25 1<|om 25 47<|N) [47])) [8,23,24,25,26,10,9,11]) [])<|R (oi 48 .add 18 1<|om 18 48<|N) [48])) [1,16,17,18,19,8,10,9,11])<|q (R (oL 49 3 6<|oS 3 4 49<|oz 5 0<|N) [6,49])<|.ret
theorem ok47 : FT 47 50 ir47 [.cell 4 (some 3), .tmp 5] := .o Tryz.func47
def ir48 : Ic := q (R (ox 3 0<|oN 4 v6<|oz 5 0<|N) [0,5])<|q (R (oL 6 7 1<|oL 7 7 2<|oL 8 6 3<|cl 9 49 [t 6,t 7,t 8]<|oe 10 9 0<|oe 11 9 1<|oS 6 4 10<|om 5 11<|N) [3,6,7,8,9,10,11])<|.ret
theorem ok48 : FT 48 12 ir48 [.cell 4 (some 6), .tmp 5] := .o Tryz.func48
def ir49 : Ic := q (R (ox 3 0<|ox 4 1<|ox 5 2<|oN 6 v6<|oz 7 0<|N) [0,1,2,7])<|q (q (R (oL 8 7 3<|oL 9 7 4<|cl 10 15 [t 8,t 9]<|N) [8,9])<|D (I 10 (q (R (oL 11 6 5<|cl 12 54 [t 11]<|oS 6 6 12<|oz 7 0<|N) [3,4,5,10,11,12])<|.ret) S) [10])<|q (R (oL 13 7 3<|oL 14 7 4<|oL 15 6 5<|cl 16 14 [t 13,t 14,t 15]<|oe 17 16 0<|oe 18 16 1<|oS 6 6 17<|om 7 18<|N) [3,4,5,13,14,15,16,17,18])<|.ret
theorem ok49 : FT 49 19 ir49 [.cell 6 (some 6), .tmp 7] := .o Tryz.func49
end Go.Proofs
namespace Go.Proofs
open Go Av
open Av.Y
def ir112 : Ic := q (R (ow 4 false<|N) [4])<|q (R (om 5 0<|om 6 1<|cl 7 209 [t 5,t 6]<|oi 8 .geq 7 0<|om 4 8<|N) [0,1,5,6,7,8])<|.ret
theorem ok112 : FT 112 9 ir112 [.tmp 4] := .o Tryz.func112
def ir209 : Ic := q (R (oz 4 0<|N) [4])<|q (q (R (om 6 0<|oh 7 6<|oz 8 0<|N) [6])<|D (.block 0<|.loop (q (.reg (ot 9 .lss 8 7<|N))<|q (D (I 9 S (E 0)) [9])<|q (D (.block 1<|q (R (om 10 8<|om 5 10<|N) [10])<|q (R (om 11 1<|om 12 0<|om 13 5<|oa false 14 1 12 13<|ol 15 14<|ot 16 .eql 11 15<|N) [11,12,13,14,15])<|D (I 16 (q (R (om 17 5<|om 4 17<|N) [0,1,7,8,5,16,17])<|.ret) S) [5,16]) [])<|R (oi 18 .add 8 1<|om 8 18<|N) [18])) [0,1,7,8,9,10,5,11])<|q (.reg (oz 4 (-1)<|N))<|.ret
theorem ok209 : FT 209 19 ir209 [.tmp 4] := .o Tryz.func209
def ir113 : Ic := q (R (ox 1 0<|ok 2 (.k .nilFn)<|N) [0,2])<|q (R (oo 3 (.fnv (.func 210) [] [t 1])<|om 2 3<|N) [1,3])<|.ret
theorem ok113 : FT 113 4 ir113 [.tmp 2] := .o Tryz.func113
def ir210 : Ic := q (R (ol 4 1<|oh 5 4<|oi 6 .sub 5 1<|om 3 6<|N) [4,5,6])<|D (.block 0<|.loop (q (q (R (om 7 3<|oi 8 .geq 7 0<|N) [7])<|D (I 8 S (E 0)) [8])<|q (D (.block 1<|q (R (om 11 0<|om 12 3<|ol 13 1<|om 14 3<|oa true 15 20 13 14<|oL 16 20 15<|.call (some 17) (.dyn (t 11)) [t 12,t 16] (og 18 17<|N)) [11,12,13,14,15,16,17])<|D (I 18 .ret S) [18]) [])<|R (om 9 3<|oi 10 .sub 9 1<|om 3 10<|N) [9,10])) [0,3,8,11,9,10]
theorem ok210 : FT 210 19 ir210 [] := .o Tryz.func210
def ir116 : Ic := q (R (ox 1 0<|oN 2 [.int .i64 0,.int .i64 0,.int .i64 0,.str [],.nil 6,.nil 7,.int .i64 0,.int .i64 0,.nil 10,.nil 6]<|N) [0])<|q (R (of 9 1 8<|ol 10 9<|oh 11 10<|oo 12 (.mks 10 [.int .i64 0,.nil 1,.int .i64 0,.nil 1,.int .i64 0,.int .i64 0,.int .i64 0,.str [],.nil 6,.nil 7] (i 0) (t 11))<|om 3 12<|N) [9,10,11,12])<|q (q (R (of 13 1 8<|ol 14 13<|oh 15 14<|oz 16 0<|N) [13])<|D (.block 0<|.loop (q (.reg (ot 17 .lss 16 15<|N))<|q (D (I 17 S (E 0)) [17])<|q (D (.block 1<|q (R (oa true 18 10 14 16<|oL 19 10 18<|oN 5 [.int .i64 0,.nil 1,.int .i64 0,.nil 1,.int .i64 0,.int .i64 0,.int .i64 0,.str [],.nil 6,.nil 7]<|oS 10 5 19<|N) [18,19])<|R (om 20 3<|oL 21 10 5<|cl 22 60 [t 21]<|oo 23 (.bls 10 [t 22])<|oo 24 (.app 10 (t 20) (t 23))<|om 3 24<|N) [5,20,21,22,23,24]) [])<|R (oi 25 .add 16 1<|om 16 25<|N) [25])) [14,15,16,17,5])<|q (R (of 26 1 9<|ol 27 26<|oh 28 27<|oo 29 (.mks 6 [.int .i64 0,.int .i64 0,.int .i64 0,.str [],.nil 6,.nil 7] (i 0) (t 28))<|om 6 29<|N) [26,27,28,29])<|q (q (R (of 30 1 9<|ol 31 30<|oh 32 31<|oz 33 0<|N) [30])<|D (.block 2<|.loop (q (.reg (ot 34 .lss 33 32<|N))<|q (D (I 34 S (E 2)) [34])<|q (D (.block 3<|q (R (oa true 35 6 31 33<|oL 36 6 35<|oN 8 v6<|oS 6 8 36<|N) [35,36])<|R (om 37 6<|oL 38 6 8<|cl 39 54 [t 38]<|oo 40 (.bls 6 [t 39])<|oo 41 (.app 6 (t 37) (t 40))<|om 6 41<|N) [8,37,38,39,40,41]) [])<|R (oi 42 .add 33 1<|om 33 42<|N) [42])) [31,32,33,34,8])<|q (R (of 43 1 0<|oL 44 6 43<|cl 45 54 [t 44]<|om 46 3<|om 47 6<|of 48 1 0<|oS 6 48 45<|of 49 1 8<|os 49 46<|of 50 1 9<|os 50 47<|N) [3,6,43,44,45,46,47,48,49,50])<|q (R (oL 51 10 1<|oS 10 2 51<|N) [1,51])<|.ret
theorem ok116 : FT 116 52 ir116 [.cell 2 (some 10)] := .o Tryz.func116
def ir60 : Ic := q (R (ox 1 0<|oN 2 [.int .i64 0,.nil 1,.int .i64 0,.nil 1,.int .i64 0,.int .i64 0,.int .i64 0,.str [],.nil 6,.nil 7]<|N) [0])<|q (D (.regd [(2,4),(2,6),(4,7),(2,9),(7,9),(4,10)] (of 3 1 0<|oL 4 2 3<|cl 5 134 [t 4]<|of 6 1 2<|ol 7 6<|of 8 1 3<|ol 9 8<|cl 10 135 [t 9]<|of 11 1 4<|oL 12 6 11<|cl 13 54 [t 12]<|oo 14 (.bld [.int .i64 0,.nil 1,.int .i64 0,.nil 1,.int .i64 0,.int .i64 0,.int .i64 0,.str [],.nil 6,.nil 7] [(0,2,t 5),(2,1,t 7),(3,1,t 10),(4,6,t 13)])<|oS 10 2 14<|N)) [1,3,4,5,6,7,8,9,10,11,12,13,14])<|.ret
theorem ok60 : FT 60 15 ir60 [.cell 2 (some 10)] := .o Tryz.func60
def ir134 : Ic := q (R (ox 1 0<|oN 2 [.int .i64 0,.nil 1]<|N) [0])<|q (D (.regd [(1,4)] (of 3 1 0<|ol 4 3<|of 5 1 1<|ol 6 5<|cl 7 135 [t 6]<|oo 8 (.bld [.int .i64 0,.nil 1] [(0,1,t 4),(1,1,t 7)])<|oS 2 2 8<|N)) [1,3,4,5,6,7,8])<|.ret
theorem ok134 : FT 134 9 ir134 [.cell 2 (some 2)] := .o Tryz.func134
def ir16 : Ic := q (R (ox 1 0<|ok 2 (.k (.nil 10))<|N) [0,2])<|q (.reg (ok 3 (.k (.nil 10))<|N))<|q (q (R (of 8 1 2<|ol 9 8<|oh 10 9<|oz 11 0<|N) [1,8])<|D (.block 0<|.loop (q (.reg (ot 12 .lss 11 10<|N))<|q (D (I 12 S (E 0)) [12])<|q (D (.block 1<|q (R (oa true 13 10 9 11<|oL 14 10 13<|oN 5 [.int .i64 0,.int .i64 0,.int .i64 0,.str [],.nil 6,.nil 7,.int .i64 0,.int .i64 0,.nil 10,.nil 6]<|oS 10 5 14<|N) [13,14])<|q (R (of 15 5 8<|ol 16 15<|oh 17 16<|oz 18 0<|N) [5,15])<|D (.block 2<|.loop (q (.reg (ot 19 .lss 18 17<|N))<|q (D (I 19 S (E 2)) [19])<|q (D (.block 3<|q (R (oa true 20 10 16 18<|oL 21 10 20<|oN 7 [.int .i64 0,.nil 1,.int .i64 0,.nil 1,.int .i64 0,.int .i64 0,.int .i64 0,.str [],.nil 6,.nil 7]<|oS 10 7 21<|N) [20,21])<|R (om 22 3<|oL 23 10 7<|cl 24 60 [t 23]<|oo 25 (.bls 10 [t 24])<|oo 26 (.app 10 (t 22) (t 25))<|om 3 26<|N) [7,22,23,24,25,26]) [])<|R (oi 27 .add 18 1<|om 18 27<|N) [27])) [16,17,18,19,7]) [])<|R (oi 28 .add 11 1<|om 11 28<|N) [28])) [9,10,11,12,5,7])<|q (R (om 29 3<|om 2 29<|N) [3,29])<|.ret
theorem ok16 : FT 16 30 ir16 [.tmp 2] := .o Tryz.func16
end Go.Proofs
