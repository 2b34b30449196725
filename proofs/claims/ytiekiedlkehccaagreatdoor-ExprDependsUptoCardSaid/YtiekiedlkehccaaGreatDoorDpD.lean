/- Part D of a proof. -/
import Derived.Test.YtiekiedlkehccaaGreatDoorDpC
import Derived.Lib.Bytealg
import Derived.Test.YtiekiedlkehccaaGreatDoorDpA
import Derived.Shelf.SlGeneric
import Derived.Shelf.LaysM
import Derived.Shelf.Strconv.Itoa3
import Derived.Shelf.LaysC
import Derived.Shelf.Strconv.AtoiAll
import Derived.Ground.Names2Prog
import Derived.Ground.SlgnProg
import Derived.Test.YtiekiedlkehccaaGreatDoorProg
import Derived.Below
import Derived.Lib.ItoaLen
import Derived.Sort.Grow
import Derived.Sort.EncStr
import Derived.Lib.SlicesCompact
import Derived.Shelf.Unicode.ValidAny
set_option linter.unusedVariables false
set_option linter.unusedSimpArgs false
set_option linter.unusedSectionVars false
set_option maxRecDepth 10000
namespace Go.Proofs
open Go Av
def idxB : List UInt8 → UInt8 → Nat → Int
 | [], _, _ => -1
 | b :: l, c, k => if b == c then (k : Int) else idxB l c (k + 1)
theorem idxB_eq (c : UInt8) : ∀ (l : List UInt8) (k : Nat), idxB l c k = if Lib.indexByte l c = -1 then -1 else Lib.indexByte l c + k
 | [], k => rfl
 | b :: l, k => by
  rw [idxB, Lib.indexByte, idxB_eq c l (k + 1)];have hge := Lib.indexByte_ge l c;by_cases h : (b == c) = true
  ·simp [h]
  ·simp only [h, Bool.false_eq_true, ↓reduceIte, beq_iff_eq];by_cases h2 : Lib.indexByte l c = -1
   ·simp [h2]
   ·simp only [h2, ↓reduceIte];rw [if_neg oM];omega
theorem idxB_le (c : UInt8) : ∀ (l : List UInt8) (k : Nat), -1 ≤ idxB l c k ∧ idxB l c k ≤ (l.length + k : Nat)
 | [], k => by simp only [idxB]; omega
 | b :: l, k => by
  have := idxB_le c l (k + 1);simp only [idxB, List.length_cons];split
  ·omega
  ·omega
theorem ext402 (s : Str) (c : Int) : CT 402 [.d (.str s), .d (.int .u8 c)] [] (.d (.int .i64 (idxB s c.toNat.toUInt8 0))) [] := by
 intro β A w H vs _ hc hvs;obtain ⟨hl, hv⟩ := hvs;have h2 : vs.size = 2 := sX hl.symm;obtain ⟨x, y, rfl⟩ : ∃ x y, vs = #[x, y] := by
  refine ⟨vs[0], vs[1], ?_⟩;apply Array.ext
  ·simp [h2]
  ·intro i h1 h2';have : i = 0 ∨ i = 1 := oM;rcases this with rfl | rfl <;> rfl
 have hx := (hv 0 _ x rfl rfl).of_d;have hy := (hv 1 _ y rfl rfl).of_d;cases hx with
 | str _ hs =>
  cases hy;have hle := idxB_le c.toNat.toUInt8 s 0;refine .inr ⟨.int .i64 (idxB s c.toNat.toUInt8 0), w, ?_, β, A, Stp.refl hc, .d _ _ (.int _ _ ?_)⟩
  ·refine ext_run (e := Extern.BytealgIndexByte.indexByte) Tryz.func402 kR kR kR kR ?_;rw [Lib.run_indexByteString, idxB_eq];congr 2;show Lib.indexByte s _ = _;have hge := Lib.indexByte_ge s c.toNat.toUInt8;by_cases h : Lib.indexByte s c.toNat.toUInt8 = -1
   ·simp [h]
   ·simp [h]
  ·have e1 : IntKind.i64.min = -9223372036854775808 := dC;have e2 : IntKind.i64.max = 9223372036854775807 := dC;rw [e1, e2];omega
def X1 : Ext := fun f ds => match f, ds with
 | 287, [.str a, .str b] => some (.d (.int .i64 (Extern.BytealgCompare.cmp ⟨a.toArray⟩ ⟨b.toArray⟩)))
 | 402, [.str s, .int .u8 c] => some (.d (.int .i64 (idxB s c.toNat.toUInt8 0)))
 | _, _ => none
theorem X1_ok : ExtOK Tryz.prog X1 := by
 intro f ds d h;unfold X1 at h;split at h
 ·cases h; exact ext287 _ _
 ·cases h; exact ext402 _ _
 ·cases h
def K1 (f : Nat) : Bool := f == 55
end Go.Proofs
namespace Go.Proofs
open Go Av
variable {P : Program} {X : Ext}
mutual
def datEq : Dat → Dat → Bool
 | .bool a, .bool b => a == b
 | .int k a, .int l b => decide (k = l) && a == b
 | .str a, .str b => a == b
 | .nil a, .nil b => a == b
 | .list a xs, .list b ys => a == b && datEqs xs ys
 | .agg xs, .agg ys => datEqs xs ys
 | .nilIface, .nilIface => true
 | _, _ => false
def datEqs : List Dat → List Dat → Bool
 | [], [] => true
 | x :: xs, y :: ys => datEq x y && datEqs xs ys
 | _, _ => false
end
mutual
theorem datEq_eq : ∀ (a b : Dat), datEq a b = true → a = b
 | .bool a, .bool b, h => by simp only [datEq, beq_iff_eq] at h; rw [h]
 | .int k a, .int l b, h => by simp only [datEq, Bool.and_eq_true, decide_eq_true_eq, beq_iff_eq] at h; rw [h.1, h.2]
 | .str a, .str b, h => by simp only [datEq, beq_iff_eq] at h; rw [h]
 | .nil a, .nil b, h => by simp only [datEq, beq_iff_eq] at h; rw [h]
 | .list a xs, .list b ys, h => by simp only [datEq, Bool.and_eq_true, beq_iff_eq] at h; rw [h.1, datEqs_eq xs ys h.2]
 | .agg xs, .agg ys, h => by simp only [datEq] at h; rw [datEqs_eq xs ys h]
 | .nilIface, b, h => by cases b <;> first | rfl | (simp [datEq] at h)
 | .fn .., b, h => by cases b <;> simp [datEq] at h
 | .ptr _, b, h => by cases b <;> simp [datEq] at h
 | .map _, b, h => by cases b <;> simp [datEq] at h
 | .nilFn, b, h => by cases b <;> simp [datEq] at h
 | .nilPtr, b, h => by cases b <;> simp [datEq] at h
 | .nilMap, b, h => by cases b <;> simp [datEq] at h
 | .iface _ _, b, h => by cases b <;> simp [datEq] at h
 | .opq, b, h => by cases b <;> simp [datEq] at h
 | .bool _, .int .., h | .bool _, .str _, h | .bool _, .nil _, h | .bool _, .list .., h | .bool _, .agg _, h | .bool _, .fn .., h | .bool _, .ptr _, h | .bool _, .map _, h | .bool _, .nilFn, h | .bool _, .nilPtr, h | .bool _, .nilMap, h | .bool _, .nilIface, h | .bool _, .iface .., h | .bool _, .opq, h => by simp [datEq] at h
 | .int .., .bool _, h | .int .., .str _, h | .int .., .nil _, h | .int .., .list .., h | .int .., .agg _, h | .int .., .fn .., h | .int .., .ptr _, h | .int .., .map _, h | .int .., .nilFn, h | .int .., .nilPtr, h | .int .., .nilMap, h | .int .., .nilIface, h | .int .., .iface .., h | .int .., .opq, h => by simp [datEq] at h
 | .str _, .bool _, h | .str _, .int .., h | .str _, .nil _, h | .str _, .list .., h | .str _, .agg _, h | .str _, .fn .., h | .str _, .ptr _, h | .str _, .map _, h | .str _, .nilFn, h | .str _, .nilPtr, h | .str _, .nilMap, h | .str _, .nilIface, h | .str _, .iface .., h | .str _, .opq, h => by simp [datEq] at h
 | .nil _, .bool _, h | .nil _, .int .., h | .nil _, .str _, h | .nil _, .list .., h | .nil _, .agg _, h | .nil _, .fn .., h | .nil _, .ptr _, h | .nil _, .map _, h | .nil _, .nilFn, h | .nil _, .nilPtr, h | .nil _, .nilMap, h | .nil _, .nilIface, h | .nil _, .iface .., h | .nil _, .opq, h => by simp [datEq] at h
 | .list .., .bool _, h | .list .., .int .., h | .list .., .str _, h | .list .., .nil _, h | .list .., .agg _, h | .list .., .fn .., h | .list .., .ptr _, h | .list .., .map _, h | .list .., .nilFn, h | .list .., .nilPtr, h | .list .., .nilMap, h | .list .., .nilIface, h | .list .., .iface .., h | .list .., .opq, h => by simp [datEq] at h
 | .agg _, .bool _, h | .agg _, .int .., h | .agg _, .str _, h | .agg _, .nil _, h | .agg _, .list .., h | .agg _, .fn .., h | .agg _, .ptr _, h | .agg _, .map _, h | .agg _, .nilFn, h | .agg _, .nilPtr, h | .agg _, .nilMap, h | .agg _, .nilIface, h | .agg _, .iface .., h | .agg _, .opq, h => by simp [datEq] at h
theorem datEqs_eq : ∀ (a b : List Dat), datEqs a b = true → a = b
 | [], [], _ => rfl
 | [], _ :: _, h => by simp [datEqs] at h
 | _ :: _, [], h => by simp [datEqs] at h
 | x :: xs, y :: ys, h => by
  simp only [datEqs, Bool.and_eq_true] at h;rw [datEq_eq x y h.1, datEqs_eq xs ys h.2]
end
def avEqs : List Av → List Av → Bool
 | [], [] => true
 | .d x :: xs, .d y :: ys => datEq x y && avEqs xs ys
 | _, _ => false
theorem avEqs_eq : ∀ (a b : List Av), avEqs a b = true → a = b
 | [], [], _ => rfl
 | [], _ :: _, h => by simp [avEqs] at h
 | x :: xs, [], h => by cases x <;> simp [avEqs] at h
 | x :: xs, y :: ys, h => by
  cases x with
  | d x =>
   cases y with
   | d y =>
    simp only [avEqs, Bool.and_eq_true] at h;rw [datEq_eq x y h.1, avEqs_eq xs ys h.2]
   | _ => simp [avEqs] at h
  | _ => simp [avEqs] at h
def avEq : Av → Av → Bool
 | .d x, .d y => datEq x y
 | .tup xs, .tup ys => avEqs xs ys
 | _, _ => false
theorem avEq_eq {a b : Av} (h : avEq a b = true) : a = b := by
 unfold avEq at h;split at h
 ·rw [datEq_eq _ _ h]
 ·rw [avEqs_eq _ _ h]
 ·cases h
abbrev Tbl := List (Nat × List Dat × Av)
def findT (f : Nat) (ds : List Dat) : Tbl → Option Av
 | [] => none
 | (g, l, v) :: r => match g == f with
  | true => match datEqs ds l with
   | true => some v
   | false => findT f ds r
  | false => findT f ds r
def ext (t : Tbl) (X : Ext) : Ext := fun f ds => match findT f ds t with
 | some v => some v
 | none => X f ds
def tblOK (P : Program) (X : Ext) : Tbl → Bool
 | [] => true
 | (f, l, v) :: r => (match evF P false (callF P X K1 500 40) 500 f (l.map .d) [] with
  | some (u, _) => pureB u && avEq u v
  | none => false) && tblOK P X r
theorem tblOK_find (hX : ExtOK P X) : ∀ {t : Tbl} {f : Nat} {ds : List Dat} {v : Av}, tblOK P X t = true → findT f ds t = some v → CallOK P (.fn f) (ds.map .d) [] v []
 | [], _, _, _, _, h => by cases h
 | (g, l, x) :: r, f, ds, v, h, hf => by
  rw [tblOK, Bool.and_eq_true] at h;rw [findT] at hf;split at hf
  ·rename_i e1;split at hf
   ·rename_i e2;cases hf;obtain rfl := datEqs_eq _ _ e2;simp only [beq_iff_eq] at e1;subst e1;have h1 := h.1;cases ev : evF P false (callF P X K1 500 40) 500 g (ds.map .d) [] with
    | none => rw [ev] at h1; cases h1
    | some y =>
     obtain ⟨u, fh⟩ := y;rw [ev] at h1;simp only [Bool.and_eq_true] at h1;obtain ⟨hp, he⟩ := h1;obtain rfl := avEq_eq he;have hc : PCon P g ds u := ev_pcon (X := X) (K := K1) (L := 500) (n := 40) hX ev hp;exact hc.call (pureB_ok hp)
   ·exact tblOK_find hX h.2 hf
  ·exact tblOK_find hX h.2 hf
theorem ext_ok {t : Tbl} (hX : ExtOK P X) (h : tblOK P X t = true) : ExtOK P (ext t X) := by
 intro f ds v hx;unfold ext at hx;split at hx
 ·rename_i u e;cases hx;exact tblOK_find hX h e
 ·exact hX f ds v hx
def trueT (P : Program) (X : Ext) (f : Nat) : Bool := match evF P false (callF P X K1 500 40) 500 f [] [] with
 | some (.d (.bool b), _) => b
 | _ => false
theorem trueT_pcon (hX : ExtOK P X) {f : Nat} (h : trueT P X f = true) : PCon P f [] (.d (.bool true)) := by
 unfold trueT at h;cases e : evF P false (callF P X K1 500 40) 500 f [] [] with
 | none => rw [e] at h; cases h
 | some x =>
  obtain ⟨v, fh⟩ := x;rw [e] at h;have hv : v = .d (.bool true) := by
   cases v with
   | d x => cases x <;> first | (cases h; done) | (simp only at h; rw [h])
   | _ => cases h
  subst hv;exact ev_pcon (X := X) (K := K1) (L := 500) (n := 40) (f := f) (ds := []) (v := .d (.bool true)) (fh := fh) hX e rfl
end Go.Proofs
namespace Go.Proofs
open Go Av
open Av.Y
def ir26 : Ic := q (R (ok 2 (.k (.nil 3))<|oz 3 0<|N) [2,3])<|q (D (.block 0<|q (R (om 10 0<|ob 11 .seq (t 10) (.k (.str []))<|om 9 11<|N) [10,11])<|D (I 9 (q (R (ok 2 (.k (.nil 3))<|oz 3 4<|N) [0,9])<|.ret) (q (R (om 13 0<|oj 14 13<|oi 15 .gtr 14 200<|om 12 15<|N) [9,13,14,15])<|D (I 12 (q (R (ok 2 (.k (.nil 3))<|oz 3 5<|N) [0,12])<|.ret) S) [12])) []) [])<|q (.reg (ok 4 (.k (.nil 3))<|N))<|q (q (R (om 16 0<|ob 17 .cat (.k (.str [46])) (t 16)<|om 5 17<|N) [0,16,17])<|D (.block 1<|.loop (q (q (R (om 18 5<|ob 19 .sne (t 18) (.k (.str []))<|N) [18])<|D (I 19 S (E 1)) [19])<|D (.block 2<|q (R (om 21 5<|cl 22 73 [t 21]<|om 20 22<|oe 23 20 0<|oe 24 20 1<|oe 25 20 2<|oN 6 [.int .i64 0,.int .i64 0,.str []]<|oS 3 6 23<|om 7 24<|om 8 25<|N) [5,21,22,20,23,24,25])<|q (q (R (om 26 8<|og 27 26<|om 28 27<|.sc 28 false (oL 29 3 6<|cl 30 74 [t 29]<|og 31 30<|N) (t 31) 32 N) [8,26,27,28])<|D (I 32 (q (R (ok 2 (.k (.nil 3))<|oz 3 13<|N) [4,6,7,32])<|.ret) S) [32])<|R (om 33 4<|oL 34 3 6<|oo 35 (.bls 3 [t 34])<|oo 36 (.app 3 (t 33) (t 35))<|om 37 7<|om 4 36<|om 5 37<|N) [6,7,33,34,35,36,37]) [])) [5,19,6,7,8])<|q (q (R (om 38 4<|oh 39 38<|oi 40 .gtr 39 16<|N) [38,39])<|D (I 40 (q (R (ok 2 (.k (.nil 3))<|oz 3 9<|N) [4,40])<|.ret) S) [40])<|q (R (om 41 4<|om 2 41<|oz 3 0<|N) [4,41])<|.ret
theorem ok26 : FT 26 42 ir26 [.tmp 2, .tmp 3] := .o Tryz.func26
def ir157 : Ic := q (R (ow 4 false<|N) [4])<|q (R (om 5 0<|om 6 1<|cl 7 236 [t 5,t 6]<|oi 8 .geq 7 0<|om 4 8<|N) [0,1,5,6,7,8])<|.ret
theorem ok157 : FT 157 9 ir157 [.tmp 4] := .o Tryz.func157
def ir73 : Ic := q (R (ox 1 0<|oN 2 [.int .i64 0,.int .i64 0,.str []]<|ok 3 (.k (.str []))<|ow 4 false<|N) [0,3,4])<|q (R (oo 12 (.fnv (.func 146) [] [t 1])<|om 5 12<|N) [12])<|q (R (om 13 5<|.call (some 14) (.dyn (t 13)) [i 1] (om 6 14<|N)) [5,13,14])<|q (D (.block 0<|q (R (ol 16 1<|cl 17 148 [t 16,.k (.str [91,42,93])]<|om 15 17<|N) [16,17])<|D (I 15 (q (D (.regd [(1,3)] (oo 18 (.bld [.int .i64 0,.int .i64 0,.str []] [(0,1,i 3)])<|ol 19 1<|oo 20 (.sls (t 19) (some (i 3)) none)<|oS 3 2 18<|om 3 20<|ow 4 true<|N)) [1,6,15,18,19,20])<|.ret) (q (R (ol 22 1<|oo 23 (.ixs (t 22) (i 0))<|ob 24 .eql (t 23) (.k (.int .u8 46))<|om 21 24<|N) [15,22,23,24])<|D (I 21 (q (D (.regd [(4,7)] (ol 25 1<|om 26 6<|oo 27 (.sls (t 25) (some (i 1)) (some (t 26)))<|oo 28 (.bld [.int .i64 0,.int .i64 0,.str []] [(0,1,i 1),(2,1,t 27)])<|ol 29 1<|om 30 6<|oo 31 (.sls (t 29) (some (t 30)) none)<|oS 3 2 28<|om 3 31<|ow 4 true<|N)) [1,6,21,25,26,27,28,29,30,31])<|.ret) (q (R (ol 33 1<|oo 34 (.ixs (t 33) (i 0))<|ob 35 .eql (t 34) (.k (.int .u8 63))<|om 32 35<|N) [21,33,34,35])<|D (I 32 (q (D (.regd [(4,7)] (ol 36 1<|om 37 6<|oo 38 (.sls (t 36) (some (i 1)) (some (t 37)))<|oo 39 (.bld [.int .i64 0,.int .i64 0,.str []] [(0,1,i 4),(2,1,t 38)])<|ol 40 1<|om 41 6<|oo 42 (.sls (t 40) (some (t 41)) none)<|oS 3 2 39<|om 3 42<|ow 4 true<|N)) [1,6,32,36,37,38,39,40,41,42])<|.ret) S) [6,32])) [])) []) [])<|q (R (ol 44 1<|oo 45 (.sls (t 44) (some (i 1)) none)<|cl 46 149 [t 45,.k (.str [93])]<|om 43 46<|oe 47 43 0<|oe 48 43 1<|oe 49 43 2<|om 7 47<|om 8 48<|om 9 49<|N) [44,45,46,43,47,48,49])<|q (R (om 51 7<|cl 52 150 [t 51]<|om 50 52<|oe 53 50 0<|oe 54 50 1<|om 10 53<|om 11 54<|N) [51,52,50,53,54])<|q (R (om 55 10<|oo 56 (.bld [.int .i64 0,.int .i64 0,.str []] [(0,1,i 2),(1,1,t 55)])<|om 57 8<|ol 58 1<|oo 59 (.ixs (t 58) (i 0))<|ob 60 .eql (t 59) (.k (.int .u8 91))<|om 61 60<|.sc 61 true (om 62 9<|N) (t 62) 63 (om 64 63<|.sc 64 true (om 65 11<|ob 66 .nileq (t 65) (.k .nilIface)<|N) (t 66) 67 (om 68 67<|.sc 68 true (om 69 10<|cl 70 100 [t 69]<|om 71 7<|ot 72 .seq 70 71<|N) (t 72) 73 (oS 3 2 56<|om 3 57<|om 4 73<|N)))) [1,7,8,9,10,11,55,56,57,58,59,60,61,63,64,67,68,73])<|.ret
theorem ok73 : FT 73 74 ir73 [.cell 2 (some 3), .tmp 3, .tmp 4] := .o Tryz.func73
def ir74 : Ic := q (R (ox 1 0<|ow 2 false<|N) [0,2])<|q (q (R (of 3 1 0<|ol 4 3<|N) [3])<|D (.block 0<|q (q (R (oi 6 .eql 4 1<|om 5 6<|N) [6])<|I 5 S (R (oi 7 .eql 4 4<|om 5 7<|N) [7]))<|D (I 5 (q (R (of 8 1 1<|ol 9 8<|oi 10 .eql 9 0<|om 11 10<|.sc 11 true (of 12 1 2<|ol 13 12<|cl 14 151 [t 13]<|N) (t 14) 15 (om 2 15<|N)) [1,4,5,8,9,10,11,15])<|.ret) (q (R (oi 17 .eql 4 2<|om 16 17<|N) [5,17])<|D (I 16 (q (R (of 18 1 2<|ol 19 18<|ob 20 .seq (t 19) (.k (.str []))<|om 21 20<|.sc 21 true (of 22 1 1<|ol 23 22<|oi 24 .geq 23 0<|N) (t 24) 25 (om 26 25<|.sc 26 true (of 27 1 1<|ol 28 27<|oi 29 .lss 28 256<|N) (t 29) 30 (om 2 30<|N))) [1,4,16,18,19,20,21,25,26,30])<|.ret) (q (R (oi 32 .eql 4 3<|om 31 32<|N) [4,16,32])<|D (I 31 (q (R (of 33 1 2<|ol 34 33<|ob 35 .seq (t 34) (.k (.str []))<|om 36 35<|.sc 36 true (of 37 1 1<|ol 38 37<|oi 39 .eql 38 0<|N) (t 39) 40 (om 2 40<|N)) [1,31,33,34,35,36,40])<|.ret) S) [1,31])) [])) []) [7,8,9,10,11])<|q (.reg (ow 2 false<|N))<|.ret
theorem ok74 : FT 74 41 ir74 [.tmp 2] := .o Tryz.func74
def ir236 : Ic := q (R (oz 4 0<|N) [4])<|q (q (R (om 6 0<|oh 7 6<|oz 8 0<|N) [6])<|D (.block 0<|.loop (q (.reg (ot 9 .lss 8 7<|N))<|q (D (I 9 S (E 0)) [9])<|q (D (.block 1<|q (R (om 10 8<|om 5 10<|N) [10])<|q (R (om 11 1<|om 12 0<|om 13 5<|oa true 14 3 12 13<|oL 15 3 14<|.call (some 16) (.dyn (t 11)) [t 15] N) [11,12,13,14,15])<|D (I 16 (q (R (om 17 5<|om 4 17<|N) [0,1,7,8,5,16,17])<|.ret) S) [5,16]) [])<|R (oi 18 .add 8 1<|om 8 18<|N) [18])) [0,1,7,8,9,10,5,11])<|q (.reg (oz 4 (-1)<|N))<|.ret
theorem ok236 : FT 236 19 ir236 [.tmp 4] := .o Tryz.func236
def ir151 : Ic := q (R (ow 2 false<|N) [2])<|q (q (R (om 5 0<|ob 6 .seq (t 5) (.k (.str []))<|om 7 6<|.sc 7 false (om 8 0<|oj 9 8<|oi 10 .gtr 9 32<|N) (t 10) 11 (om 12 11<|.sc 12 false (om 13 0<|oo 14 (.ixs (t 13) (i 0))<|ob 15 .lss (t 14) (.k (.int .u8 97))<|N) (t 15) 16 (om 17 16<|.sc 17 false (om 18 0<|oo 19 (.ixs (t 18) (i 0))<|ob 20 .gtr (t 19) (.k (.int .u8 122))<|N) (t 20) 21 N))) [5,6,7,11,12,16,17])<|D (I 21 (q (R (ow 2 false<|N) [0,21])<|.ret) S) [21])<|q (q (R (om 22 0<|oo 23 (.s2b (t 22))<|oh 24 23<|oz 25 0<|N) [0,22])<|D (.block 0<|.loop (q (.reg (ot 26 .lss 25 24<|N))<|q (D (I 26 S (E 0)) [26])<|q (D (.block 1<|q (R (oa false 27 1 23 25<|ol 28 27<|om 4 28<|N) [27,28])<|q (R (om 29 4<|ob 30 .lss (t 29) (.k (.int .u8 97))<|om 31 30<|.sc 31 false (om 32 4<|ob 33 .gtr (t 32) (.k (.int .u8 122))<|N) (t 33) 34 (om 35 34<|.sc 35 true (om 36 4<|ob 37 .lss (t 36) (.k (.int .u8 48))<|om 38 37<|.sc 38 false (om 39 4<|ob 40 .gtr (t 39) (.k (.int .u8 57))<|N) (t 40) 41 N) (t 41) 42 (om 43 42<|.sc 43 true (om 44 4<|ob 45 .neq (t 44) (.k (.int .u8 95))<|N) (t 45) 46 N))) [4,29,30,31,34,35,42,43])<|D (I 46 (q (R (ow 2 false<|N) [23,24,25,46])<|.ret) S) [46]) [])<|R (oi 47 .add 25 1<|om 25 47<|N) [47])) [23,24,25,26,4])<|q (.reg (ow 2 true<|N))<|.ret
theorem ok151 : FT 151 48 ir151 [.tmp 2] := .o Tryz.func151
def ir146 : Ic := q (R (oz 3 0<|N) [3])<|q (R (ol 5 1<|om 6 0<|oo 7 (.sls (t 5) (some (t 6)) none)<|cl 8 147 [t 7,.k (.str [46,91,63])]<|om 4 8<|N) [5,6,7,8])<|q (q (R (om 9 4<|oi 10 .lss 9 0<|N) [9])<|D (I 10 (q (R (ol 11 1<|oj 12 11<|om 3 12<|N) [0,4,10,11,12])<|.ret) S) [10])<|q (R (om 13 0<|om 14 4<|ot 15 .add 13 14<|om 3 15<|N) [0,4,13,14,15])<|.ret
theorem ok146 : FT 146 16 ir146 [.tmp 3] := .o Tryz.func146
def ir147 : Ic := q (R (oz 4 0<|N) [4])<|q (q (R (om 11 1<|ob 12 .seq (t 11) (.k (.str []))<|N) [11])<|D (I 12 (q (R (oz 4 (-1)<|N) [0,1,12])<|.ret) S) [12])<|q (q (R (om 13 1<|oj 14 13<|oi 15 .eql 14 1<|N) [13,14])<|D (I 15 (q (R (om 16 1<|oo 17 (.ixs (t 16) (i 0))<|oo 18 (.cvi .i32 (t 17))<|om 5 18<|N) [1,15,16,17,18])<|q (q (R (om 19 5<|ob 20 .geq (t 19) (.k (.int .i32 128))<|N) [19])<|D (I 20 (R (ok 5 (.k (.int .i32 65533))<|N) [20]) S) [20])<|q (R (om 21 0<|om 22 5<|cl 23 228 [t 21,t 22]<|om 4 23<|N) [0,5,21,22,23])<|.ret) S) [15])<|q (q (R (om 24 0<|oj 25 24<|cl 26 229 [t 25]<|N) [24,25])<|D (I 26 (q (R (om 28 1<|cl 29 230 [t 28]<|om 27 29<|oe 30 27 0<|oe 31 27 1<|oN 6 [.bool false,.bool false,.bool false,.bool false,.bool false,.bool false,.bool false,.bool false,.bool false,.bool false,.bool false,.bool false,.bool false,.bool false,.bool false,.bool false,.bool false,.bool false,.bool false,.bool false,.bool false,.bool false,.bool false,.bool false,.bool false,.bool false,.bool false,.bool false,.bool false,.bool false,.bool false,.bool false,.bool false,.bool false,.bool false,.bool false,.bool false,.bool false,.bool false,.bool false,.bool false,.bool false,.bool false,.bool false,.bool false,.bool false,.bool false,.bool false,.bool false,.bool false,.bool false,.bool false,.bool false,.bool false,.bool false,.bool false,.bool false,.bool false,.bool false,.bool false,.bool false,.bool false,.bool false,.bool false,.bool false,.bool false,.bool false,.bool false,.bool false,.bool false,.bool false,.bool false,.bool false,.bool false,.bool false,.bool false,.bool false,.bool false,.bool false,.bool false,.bool false,.bool false,.bool false,.bool false,.bool false,.bool false,.bool false,.bool false,.bool false,.bool false,.bool false,.bool false,.bool false,.bool false,.bool false,.bool false,.bool false,.bool false,.bool false,.bool false,.bool false,.bool false,.bool false,.bool false,.bool false,.bool false,.bool false,.bool false,.bool false,.bool false,.bool false,.bool false,.bool false,.bool false,.bool false,.bool false,.bool false,.bool false,.bool false,.bool false,.bool false,.bool false,.bool false,.bool false,.bool false,.bool false,.bool false,.bool false,.bool false,.bool false,.bool false,.bool false,.bool false,.bool false,.bool false,.bool false,.bool false,.bool false,.bool false,.bool false,.bool false,.bool false,.bool false,.bool false,.bool false,.bool false,.bool false,.bool false,.bool false,.bool false,.bool false,.bool false,.bool false,.bool false,.bool false,.bool false,.bool false,.bool false,.bool false,.bool false,.bool false,.bool false,.bool false,.bool false,.bool false,.bool false,.bool false,.bool false,.bool false,.bool false,.bool false,.bool false,.bool false,.bool false,.bool false,.bool false,.bool false,.bool false,.bool false,.bool false,.bool false,.bool false,.bool false,.bool false,.bool false,.bool false,.bool false,.bool false,.bool false,.bool false,.bool false,.bool false,.bool false,.bool false,.bool false,.bool false,.bool false,.bool false,.bool false,.bool false,.bool false,.bool false,.bool false,.bool false,.bool false,.bool false,.bool false,.bool false,.bool false,.bool false,.bool false,.bool false,.bool false,.bool false,.bool false,.bool false,.bool false,.bool false,.bool false,.bool false,.bool false,.bool false,.bool false,.bool false,.bool false,.bool false,.bool false,.bool false,.bool false,.bool false,.bool false,.bool false,.bool false,.bool false,.bool false,.bool false,.bool false,.bool false,.bool false,.bool false,.bool false,.bool false,.bool false,.bool false,.bool false,.bool false,.bool false,.bool false,.bool false,.bool false,.bool false,.bool false,.bool false,.bool false,.bool false,.bool false]<|oS 256 6 30<|om 7 31<|N) [26,28,29,27,30,31])<|q (R (om 32 7<|N) [7])<|D (I 32 (q (q (R (oz 8 0<|N) [1,32])<|D (.block 0<|.loop (q (q (R (om 33 8<|om 34 0<|oj 35 34<|ot 36 .lss 33 35<|N) [33,34,35])<|D (I 36 S (E 0)) [36])<|q (D (.block 1<|q (R (om 39 0<|om 40 8<|oo 41 (.ixs (t 39) (t 40))<|cl 42 231 [t 6,t 41]<|N) [39,40,41])<|D (I 42 (q (R (om 43 8<|om 4 43<|N) [0,6,8,42,43])<|.ret) S) [42]) [])<|R (om 37 8<|oi 38 .add 37 1<|om 8 38<|N) [37,38])) [0,6,8,36])<|q (.reg (oz 4 (-1)<|N))<|.ret) S) [6,32]) S) [26])<|q (q (R (om 44 0<|oo 45 (.rgs (t 44))<|N) [0,44])<|D (.block 2<|.loop (q (.reg (oo 46 (.nxs (t 45))<|oe 47 46 0<|N))<|q (D (I 47 S (E 2)) [47])<|D (.block 3<|q (R (oe 48 46 1<|oe 49 46 2<|om 9 48<|om 10 49<|N) [46,48,49])<|q (R (om 50 1<|om 51 10<|cl 52 228 [t 50,t 51]<|oi 53 .geq 52 0<|N) [10,50,51,52])<|D (I 53 (q (R (om 54 9<|om 4 54<|N) [1,45,9,53,54])<|.ret) S) [9,53]) [])) [1,45,46,47,9,10])<|q (.reg (oz 4 (-1)<|N))<|.ret
theorem ok147 : FT 147 55 ir147 [.tmp 4] := .o Tryz.func147
def ir148 : Ic := q (R (ow 4 false<|N) [4])<|q (R (om 5 0<|om 6 1<|cl 7 232 [t 5,t 6]<|om 4 7<|N) [0,1,5,6,7])<|.ret
theorem ok148 : FT 148 8 ir148 [.tmp 4] := .o Tryz.func148
def ir149 : Ic := q (R (ok 4 (.k (.str []))<|ok 5 (.k (.str []))<|ow 6 false<|N) [4,5,6])<|q (R (om 7 0<|om 8 1<|cl 9 233 [t 7,t 8]<|oe 10 9 0<|oe 11 9 1<|oe 12 9 2<|om 4 10<|om 5 11<|om 6 12<|N) [0,1,7,8,9,10,11,12])<|.ret
theorem ok149 : FT 149 13 ir149 [.tmp 4, .tmp 5, .tmp 6] := .o Tryz.func149
def ir228 : Ic := q (R (oz 4 0<|N) [4])<|D (.block 0<|q (R (om 161 1<|ob 162 .leq (.k (.int .i32 0)) (t 161)<|om 163 162<|.sc 163 true (om 164 1<|ob 165 .lss (t 164) (.k (.int .i32 128))<|N) (t 165) 166 (om 160 166<|N)) [161,162,163,164,165,166])<|I 160 (q (R (om 167 0<|om 168 1<|oo 169 (.cvi .u8 (t 168))<|cl 170 309 [t 167,t 169]<|om 4 170<|N) [0,1,160,167,168,169,170])<|.ret) (q (R (om 172 1<|ob 173 .eql (t 172) (.k (.int .i32 65533))<|om 171 173<|N) [160,172,173])<|I 171 (q (q (R (om 174 0<|oo 175 (.rgs (t 174))<|N) [0,1,171,174])<|D (.block 9<|.loop (q (.reg (oo 176 (.nxs (t 175))<|oe 177 176 0<|N))<|q (D (I 177 S (E 9)) [177])<|D (.block 10<|q (R (oe 178 176 1<|oe 179 176 2<|om 5 178<|om 6 179<|N) [176,178,179])<|q (R (om 180 6<|ob 181 .eql (t 180) (.k (.int .i32 65533))<|N) [6,180])<|D (I 181 (q (R (om 182 5<|om 4 182<|N) [175,5,181,182])<|.ret) S) [4,5,181]) [176,178,179,5,6,180,181,182,4])) [175,176,177,178,179,5,6,180,181,182,4])<|q (.reg (oz 4 (-1)<|N))<|.ret) (q (R (om 184 1<|cl 185 310 [t 184]<|og 186 185<|om 183 186<|N) [171,184,185,186])<|I 183 (q (R (oz 4 (-1)<|N) [0,1,183])<|.ret) (.scp (q (R (om 17 1<|oo 18 (.i2s (t 17))<|om 7 18<|N) [1,183,17,18])<|q (R (om 19 7<|oj 20 19<|oi 21 .sub 20 1<|om 8 21<|N) [19,20,21])<|q (R (om 22 8<|om 9 22<|N) [22])<|q (R (oz 10 0<|N) [10])<|q (D (.block 1<|.loop (q (q (R (om 23 9<|om 24 0<|oj 25 24<|ot 26 .lss 23 25<|N) [23,24,25])<|D (I 26 S (E 1)) [26])<|D (.block 2<|.scp (q (q (R (om 27 0<|om 28 9<|oo 29 (.ixs (t 27) (t 28))<|om 30 7<|om 31 8<|oo 32 (.ixs (t 30) (t 31))<|ot 33 .neq 29 32<|N) [27,28,29,30,31,32])<|D (I 33 (q (R (om 34 0<|om 35 9<|oi 36 .add 35 1<|oo 37 (.sls (t 34) (some (t 36)) none)<|om 38 7<|om 39 8<|oo 40 (.ixs (t 38) (t 39))<|cl 41 309 [t 37,t 40]<|om 11 41<|N) [33,34,35,36,37,38,39,40,41])<|q (q (R (om 42 11<|oi 43 .lss 42 0<|N) [42])<|D (I 43 (q (R (oz 4 (-1)<|N) [0,7,8,9,11,43])<|.ret) S) [4,43])<|R (om 44 9<|om 45 11<|oi 46 .add 45 1<|ot 47 .add 44 46<|om 9 47<|N) [11,44,45,46,47]) S) [33])<|q (q (.reg (oz 12 1<|N))<|D (.block 3<|.loop (q (q (R (om 48 12<|om 49 7<|oj 50 49<|ot 51 .lss 48 50<|N) [48,49,50])<|D (I 51 S (E 3)) [51])<|q (D (.block 4<|q (R (om 54 0<|om 55 9<|om 56 12<|ot 57 .sub 55 56<|oo 58 (.ixs (t 54) (t 57))<|om 59 7<|om 60 8<|om 61 12<|ot 62 .sub 60 61<|oo 63 (.ixs (t 59) (t 62))<|ot 64 .neq 58 63<|N) [54,55,56,57,58,59,60,61,62,63])<|D (I 64 .bad S) [64]) [54,55,56,57,58,59,60,61,62,63,64])<|R (om 52 12<|oi 53 .add 52 1<|om 12 53<|N) [52,53])) [0,7,12,48,49,50,51,54,55,56,57,58,59,60,61,62,63,64,52,53])<|q (q (R (om 65 9<|om 66 8<|ot 67 .sub 65 66<|om 4 67<|N) [8,9,65,66,67])<|.ret)<|q .lab<|q (R (om 68 10<|oi 69 .add 68 1<|om 10 69<|N) [4,68,69])<|q (R (om 70 9<|oi 71 .add 70 1<|om 9 71<|N) [70,71])<|q (R (ow 72 true<|.sc 72 true (om 73 10<|om 74 9<|cl 75 311 [t 74]<|ot 76 .gtr 73 75<|N) (t 76) 77 (om 78 77<|.sc 78 true (om 79 9<|om 80 0<|oj 81 80<|ot 82 .lss 79 81<|N) (t 82) 83 (om 84 83<|.sc 84 false (ow 85 false<|.sc 85 true (om 86 10<|om 87 9<|oo 88 (.bit .shr (t 87) (.k (.int .u64 4)))<|ob 89 .add (i 4) (t 88)<|ot 90 .geq 86 89<|N) (t 90) 91 (om 92 91<|.sc 92 true (om 93 9<|om 94 0<|oj 95 94<|ot 96 .lss 93 95<|N) (t 96) 97 N)) (t 97) 98 N))) [10,72,73,74,75,76,77,78,79,80,81,82,83,84,85,86,87,88,89,90,91,92,93,94,95,96,97])<|D (I 98 .bad S) [98])) [27,28,29,30,31,32,33,34,35,36,37,38,39,40,41,11,42,43,4,44,45,46,47,12,48,49,50,51,54,55,56,57,58,59,60,61,62,63,64,52,53,65,66,67,68,69,10,70,71,72,73,74,75,76,77,78,79,80,81,82,83,84,85,86,87,88,89,90,91,92,93,94,95,96,97,98])) [0,7,8,9,23,24,25,26,27,28,29,30,31,32,33,34,35,36,37,38,39,40,41,11,42,43,4,44,45,46,47,12,48,49,50,51,54,55,56,57,58,59,60,61,62,63,64,52,53,65,66,67,68,69,10,70,71,72,73,74,75,76,77,78,79,80,81,82,83,84,85,86,87,88,89,90,91,92,93,94,95,96,97,98])<|q (q (.reg (oz 4 (-1)<|N))<|.ret)<|q .lab<|q (.ite (B true) (q (R (om 99 0<|om 100 9<|om 101 8<|ot 102 .sub 100 101<|oo 103 (.sls (t 99) (some (t 102)) none)<|om 104 1<|oo 105 (.i2s (t 104))<|cl 106 312 [t 103,t 105]<|om 13 106<|N) [4,99,100,101,102,103,104,105,106])<|q (R (om 107 13<|oi 108 .geq 107 0<|N) [107])<|D (I 108 (q (R (om 109 9<|om 110 13<|ot 111 .add 109 110<|om 112 8<|ot 113 .sub 111 112<|om 4 113<|N) [13,108,109,110,111,112,113])<|.ret) S) [4,13,108]) (.scp (q (R (om 114 7<|om 115 8<|oo 116 (.ixs (t 114) (t 115))<|om 14 116<|N) [4,114,115,116])<|q (R (om 117 7<|om 118 8<|oi 119 .sub 118 1<|oo 120 (.ixs (t 117) (t 119))<|om 15 120<|N) [117,118,119,120])<|q .lab<|D (.block 5<|.loop (q (q (R (om 121 9<|om 122 0<|oj 123 122<|ot 124 .lss 121 123<|N) [121,122,123])<|D (I 124 S (E 5)) [124])<|q (D (.block 6<|q (R (om 127 0<|om 128 9<|oo 129 (.ixs (t 127) (t 128))<|om 130 14<|ot 131 .eql 129 130<|om 132 131<|.sc 132 true (om 133 0<|om 134 9<|oi 135 .sub 134 1<|oo 136 (.ixs (t 133) (t 135))<|om 137 15<|ot 138 .eql 136 137<|N) (t 138) 139 N) [127,128,129,130,131,132,133,134,135,136,137,138])<|D (I 139 (q (q (R (oz 16 2<|N) [139])<|D (.block 7<|.loop (q (q (R (om 140 16<|om 141 7<|oj 142 141<|ot 143 .lss 140 142<|N) [140,141,142])<|D (I 143 S (E 7)) [143])<|q (D (.block 8<|q (R (om 146 0<|om 147 9<|om 148 16<|ot 149 .sub 147 148<|oo 150 (.ixs (t 146) (t 149))<|om 151 7<|om 152 8<|om 153 16<|ot 154 .sub 152 153<|oo 155 (.ixs (t 151) (t 154))<|ot 156 .neq 150 155<|N) [146,147,148,149,150,151,152,153,154,155])<|D (I 156 (E 6) S) [156]) [146,147,148,149,150,151,152,153,154,155,156])<|R (om 144 16<|oi 145 .add 144 1<|om 16 145<|N) [144,145])) [14,15,16,140,141,142,143,146,147,148,149,150,151,152,153,154,155,156,144,145])<|q (R (om 157 9<|om 158 8<|ot 159 .sub 157 158<|om 4 159<|N) [157,158,159])<|.ret) S) [4,139]) [127,128,129,130,131,132,133,134,135,136,137,138,139,16,140,141,142,143,146,147,148,149,150,151,152,153,154,155,156,144,145,157,158,159,4])<|R (om 125 9<|oi 126 .add 125 1<|om 9 126<|N) [125,126])) [14,15,121,122,123,124,127,128,129,130,131,132,133,134,135,136,137,138,139,16,140,141,142,143,146,147,148,149,150,151,152,153,154,155,156,144,145,157,158,159,4,125,126,9])))<|q (.reg (oz 4 (-1)<|N))<|.ret))))) [0,1,161,162,163,164,165,166,160,167,168,169,170,172,173,171,174,175,176,177,178,179,5,6,180,181,182,184,185,186,183,17,18,7,19,20,21,8,22,9,10,23,24,25,26,27,28,29,30,31,32,33,34,35,36,37,38,39,40,41,11,42,43,44,45,46,47,12,48,49,50,51,54,55,56,57,58,59,60,61,62,63,64,52,53,65,66,67,68,69,70,71,72,73,74,75,76,77,78,79,80,81,82,83,84,85,86,87,88,89,90,91,92,93,94,95,96,97,98,99,100,101,102,103,104,105,106,13,107,108,109,110,111,112,113,114,115,116,14,117,118,119,120,15,121,122,123,124,127,128,129,130,131,132,133,134,135,136,137,138,139,16,140,141,142,143,146,147,148,149,150,151,152,153,154,155,156,144,145,157,158,159,125,126]
theorem ok228 : FT 228 187 ir228 [.tmp 4] := .o Tryz.func228
def ir229 : Ic := q (R (ow 2 false<|N) [2])<|q (R (om 3 0<|oi 4 .gtr 3 8<|om 2 4<|N) [0,3,4])<|.ret
theorem ok229 : FT 229 5 ir229 [.tmp 2] := .o Tryz.func229
def ir231 : Ic := q (R (ow 4 false<|N) [4])<|q (R (om 5 0<|om 6 1<|oc 7 5<|oo 8 (.ixr 256 1 (t 7) (t 6))<|ol 9 8<|om 4 9<|N) [0,1,5,6,7,8,9])<|.ret
theorem ok231 : FT 231 10 ir231 [.tmp 4] := .o Tryz.func231
def ir232 : Ic := q (R (ow 4 false<|N) [4])<|q (R (om 5 0<|oj 6 5<|om 7 1<|oj 8 7<|ot 9 .geq 6 8<|om 10 9<|.sc 10 true (om 11 0<|om 12 1<|oj 13 12<|oo 14 (.sls (t 11) none (some (t 13)))<|om 15 1<|ot 16 .seq 14 15<|N) (t 16) 17 (om 4 17<|N)) [0,1,5,6,7,8,9,10,17])<|.ret
theorem ok232 : FT 232 18 ir232 [.tmp 4] := .o Tryz.func232
def ir233 : Ic := q (R (ok 4 (.k (.str []))<|ok 5 (.k (.str []))<|ow 6 false<|N) [4,5,6])<|q (q (R (om 8 0<|om 9 1<|cl 10 313 [t 8,t 9]<|om 7 10<|N) [8,9,10])<|q (R (om 11 7<|oi 12 .geq 11 0<|N) [11])<|D (I 12 (q (R (om 13 0<|om 14 7<|oo 15 (.sls (t 13) none (some (t 14)))<|om 16 0<|om 17 7<|om 18 1<|oj 19 18<|ot 20 .add 17 19<|oo 21 (.sls (t 16) (some (t 20)) none)<|om 4 15<|om 5 21<|ow 6 true<|N) [0,1,7,12,13,14,15,16,17,18,19,20,21])<|.ret) S) [1,7,12])<|q (R (om 22 0<|om 4 22<|ok 5 (.k (.str []))<|ow 6 false<|N) [0,22])<|.ret
theorem ok233 : FT 233 23 ir233 [.tmp 4, .tmp 5, .tmp 6] := .o Tryz.func233
def ir309 : Ic := q (R (oz 4 0<|N) [4])<|q (R (om 5 0<|om 6 1<|cl 7 374 [t 5,t 6]<|om 4 7<|N) [0,1,5,6,7])<|.ret
theorem ok309 : FT 309 8 ir309 [.tmp 4] := .o Tryz.func309
def ir310 : Ic := q (R (ow 2 false<|N) [2])<|q (D (.block 0<|q (R (om 4 0<|ob 5 .leq (.k (.int .i32 0)) (t 4)<|om 6 5<|.sc 6 true (om 7 0<|ob 8 .lss (t 7) (.k (.int .i32 55296))<|N) (t 8) 9 (om 3 9<|N)) [4,5,6,9])<|D (I 3 (q (R (ow 2 true<|N) [0,3])<|.ret) (q (R (om 11 0<|ob 12 .lss (.k (.int .i32 57343)) (t 11)<|om 13 12<|.sc 13 true (om 14 0<|ob 15 .leq (t 14) (.k (.int .i32 1114111))<|N) (t 15) 16 (om 10 16<|N)) [0,3,11,12,13,16])<|D (I 10 (q (R (ow 2 true<|N) [10])<|.ret) S) [10])) []) [])<|q (.reg (ow 2 false<|N))<|.ret
theorem ok310 : FT 310 17 ir310 [.tmp 2] := .o Tryz.func310
def ir313 : Ic := q (R (oz 4 0<|N) [4])<|q (R (om 14 1<|oj 15 14<|om 5 15<|N) [14,15])<|q (D (.block 0<|q (R (om 17 5<|oi 18 .eql 17 0<|om 19 18<|.sc 19 false (om 20 1<|om 21 0<|ot 22 .seq 20 21<|N) (t 22) 23 (om 16 23<|N)) [17,18,19,23])<|D (I 16 (q (R (oz 4 0<|N) [0,1,5,16])<|.ret) (q (R (om 25 5<|oi 26 .eql 25 1<|om 24 26<|N) [16,25,26])<|D (I 24 (q (R (om 27 0<|om 28 1<|oo 29 (.ixs (t 28) (i 0))<|cl 30 374 [t 27,t 29]<|om 4 30<|N) [0,1,5,24,27,28,29,30])<|.ret) (q (R (om 32 5<|om 33 0<|oj 34 33<|ot 35 .geq 32 34<|om 31 35<|N) [24,32,33,34,35])<|D (I 31 (q (R (oz 4 (-1)<|N) [0,1,5,31])<|.ret) (q (R (om 37 5<|oo 38 (.ld none (.k (.glo 2)))<|ot 39 .leq 37 38<|om 40 39<|.sc 40 true (om 41 0<|oj 42 41<|oi 43 .leq 42 64<|N) (t 43) 44 (om 36 44<|N)) [31,37,38,39,40,44])<|D (I 36 (q (R (om 45 0<|om 46 1<|cl 47 312 [t 45,t 46]<|om 4 47<|N) [0,1,5,36,45,46,47])<|.ret) S) [36])) [])) [])) []) [])<|q (R (om 48 1<|oo 49 (.ixs (t 48) (i 0))<|om 6 49<|N) [48,49])<|q (R (om 50 1<|oo 51 (.ixs (t 50) (i 1))<|om 7 51<|N) [50,51])<|q (.reg (oz 8 0<|N))<|q (R (om 52 0<|oj 53 52<|om 54 5<|ot 55 .sub 53 54<|oi 56 .add 55 1<|om 9 56<|N) [52,53,54,55,56])<|q (.reg (oz 10 0<|N))<|q (D (.block 1<|.loop (q (q (R (om 57 8<|om 58 9<|ot 59 .lss 57 58<|N) [57,58])<|D (I 59 S (E 1)) [59])<|D (.block 2<|q (q (R (om 60 0<|om 61 8<|oo 62 (.ixs (t 60) (t 61))<|om 63 6<|ot 64 .neq 62 63<|N) [60,61,62,63])<|D (I 64 (q (R (om 65 0<|om 66 8<|oi 67 .add 66 1<|om 68 9<|oo 69 (.sls (t 65) (some (t 67)) (some (t 68)))<|om 70 6<|cl 71 374 [t 69,t 70]<|om 11 71<|N) [64,65,66,67,68,69,70,71])<|q (q (R (om 72 11<|oi 73 .lss 72 0<|N) [72])<|D (I 73 (q (R (oz 4 (-1)<|N) [0,1,5,6,7,8,9,10,11,73])<|.ret) S) [73])<|R (om 74 8<|om 75 11<|oi 76 .add 75 1<|ot 77 .add 74 76<|om 8 77<|N) [11,74,75,76,77]) S) [64])<|q (q (R (om 78 0<|om 79 8<|oi 80 .add 79 1<|oo 81 (.ixs (t 78) (t 80))<|om 82 7<|ot 83 .eql 81 82<|om 84 83<|.sc 84 true (om 85 0<|om 86 8<|om 87 8<|om 88 5<|ot 89 .add 87 88<|oo 90 (.sls (t 85) (some (t 86)) (some (t 89)))<|om 91 1<|ot 92 .seq 90 91<|N) (t 92) 93 N) [78,79,80,81,82,83,84])<|D (I 93 (q (R (om 94 8<|om 4 94<|N) [0,1,5,6,7,8,9,10,93,94])<|.ret) S) [93])<|q (R (om 95 8<|oi 96 .add 95 1<|om 8 96<|N) [95,96])<|q (R (om 97 10<|oi 98 .add 97 1<|om 10 98<|N) [97,98])<|q (R (om 99 5<|oo 100 (.ld none (.k (.glo 2)))<|ot 101 .leq 99 100<|om 102 101<|.sc 102 true (om 103 10<|om 104 8<|cl 105 311 [t 104]<|ot 106 .gtr 103 105<|N) (t 106) 107 N) [99,100,101,102])<|D (I 107 (q (R (om 108 0<|om 109 8<|oo 110 (.sls (t 108) (some (t 109)) none)<|om 111 1<|cl 112 312 [t 110,t 111]<|om 12 112<|N) [0,1,5,6,7,9,10,107,108,109,110,111,112])<|q (q (R (om 113 12<|oi 114 .geq 113 0<|N) [113])<|D (I 114 (q (R (om 115 12<|om 116 8<|ot 117 .add 115 116<|om 4 117<|N) [8,12,114,115,116,117])<|.ret) S) [8,12,114])<|q (.reg (oz 4 (-1)<|N))<|.ret) (q (R (om 118 5<|oo 119 (.ld none (.k (.glo 2)))<|ot 120 .gtr 118 119<|om 121 120<|.sc 121 true (om 122 10<|om 123 8<|oo 124 (.bit .shr (t 123) (.k (.int .u64 4)))<|ob 125 .add (i 4) (t 124)<|ot 126 .geq 122 125<|N) (t 126) 127 (om 128 127<|.sc 128 true (om 129 8<|om 130 9<|ot 131 .lss 129 130<|N) (t 131) 132 N)) [107,118,119,120,121,127,128])<|D (I 132 (q (R (om 133 0<|om 134 8<|oo 135 (.sls (t 133) (some (t 134)) none)<|om 136 1<|cl 137 375 [t 135,t 136]<|om 13 137<|N) [0,1,5,6,7,9,10,132,133,134,135,136,137])<|q (q (R (om 138 13<|oi 139 .lss 138 0<|N) [138])<|D (I 139 (q (R (oz 4 (-1)<|N) [8,13,139])<|.ret) S) [139])<|q (R (om 140 8<|om 141 13<|ot 142 .add 140 141<|om 4 142<|N) [8,13,140,141,142])<|.ret) S) [132])) []) [11])) [0,1,5,6,7,8,9,10,59,11])<|q (.reg (oz 4 (-1)<|N))<|.ret
theorem ok313 : FT 313 143 ir313 [.tmp 4] := .o Tryz.func313
def ir374 : Ic := q (R (oz 4 0<|N) [4])<|q (R (om 5 0<|om 6 1<|cl 7 402 [t 5,t 6]<|om 4 7<|N) [0,1,5,6,7])<|.ret
theorem ok374 : FT 374 8 ir374 [.tmp 4] := .o Tryz.func374
end Go.Proofs
namespace Go.Proofs
open Go Av
def ixb (s : Str) (c : Int) : Int := idxB s c.toNat.toUInt8 0
theorem ixb_le (s : Str) (c : Int) : -1 ≤ ixb s c ∧ ixb s c ≤ s.length := by
 have := idxB_le c.toNat.toUInt8 s 0;simpa [ixb] using this
theorem walk374 (s : Str) (c : Int) : PT 374 [.str s, .int .u8 c] (.d (.int .i64 (ixb s c))) := by
 refine ok374.pc ?_;simp only [go_sem, ir374, simprocAttr];refine wn (ext402 s c) ?_;simp only [go_sem, Nat.reduceAdd, Nat.reduceEqDiff, Nat.reduceBEq, Nat.reduceLeDiff, reduceCtorEq, ↓reduceIte, ixb]
theorem walk309 (s : Str) (c : Int) : PT 309 [.str s, .int .u8 c] (.d (.int .i64 (ixb s c))) := by
 refine ok309.pc ?_;simp only [go_sem, ir309, simprocAttr];refine wc ((walk374 s c).call trivial) trivial
def validR (r : Int) : Bool := (decide (0 ≤ r) && decide (r < 55296)) || (decide (57343 < r) && decide (r ≤ 1114111))
theorem walk310 (r : Int) : PT 310 [.int .i32 r] (.d (.bool (validR r))) := by
 refine ok310.pc ?_;simp only [go_sem, ir310, simprocAttr];refine sq (decide (r < 55296)) ?_ ?_
 all_goals simp only [go_sem, simprocAttr]
 apply ik <;> intro h
 ·simp only [validR, h, Bool.true_or]
 refine sq (decide (r ≤ 1114111)) ?_ ?_
 all_goals simp only [go_sem, simprocAttr]
 apply ik <;> intro h2
 ·simp only [validR, h, h2, Bool.false_or]
 ·simp only [validR, h, h2, Bool.false_or]
def sgn3 : Str := [46, 91, 63]
theorem tbl_one {P : Program} {X : Ext} (hX : ExtOK P X) {f : Nat} {ds : List Dat} {v : Av} (h : tblOK P X [(f, ds, v)] = true) : PCon P f ds v := by
 rw [tblOK, tblOK, Bool.and_true] at h;cases ev : evF P false (callF P X K1 500 40) 500 f (ds.map .d) [] with
 | none => rw [ev] at h; cases h
 | some y =>
  obtain ⟨u, fh⟩ := y;rw [ev] at h;simp only [Bool.and_eq_true] at h;obtain ⟨hp, he⟩ := h;obtain rfl := avEq_eq he;exact ev_pcon (X := X) (K := K1) (L := 500) (n := 40) hX ev hp
theorem rune_err : PT 228 [.str sgn3, .int .i32 65533] (.d (.int .i64 (-1))) := tbl_one X1_ok kR
def as3 : List Bool := (List.range 256).map fun k => k == 46 || k == 91 || k == 63
theorem set3 : PT 230 [.str sgn3] (.tup [.d (.agg (as3.map .bool)), .d (.bool true)]) := tbl_one X1_ok kR
theorem enc_last {r : Int} (hv : Utf8.valid r = true) (h : 128 ≤ r) : ∃ l : Str, ∃ c : UInt8, (Utf8.encode r).data.toList = l ++ [c] ∧ 128 ≤ c.toNat ∧ 1 ≤ l.length ∧ l.length ≤ 3 := by
 have hc : ¬ r.toNat < 128 := oM;unfold Utf8.encode;simp only [hv, if_true, hc, if_false];split
 ·exact ⟨[_], _, rfl, sO, sP, sP⟩
 ·split
  ·exact ⟨[_, _], _, rfl, sO, sP, sP⟩
  ·exact ⟨[_, _, _], _, rfl, sO, sP, sP⟩
theorem walk228 (r : Int) : ∃ n : Int, PT 228 [.str sgn3, .int .i32 r] (.d (.int .i64 n)) ∧ -1 ≤ n ∧ n ≤ 3 := by
 by_cases h0 : (0 ≤ r ∧ r < 128)
 ·refine ⟨ixb sgn3 (IntKind.u8.wrap r), ?_, (ixb_le _ _).1, (ixb_le _ _).2⟩;refine ok228.pc ?_;have e1 : decide (0 ≤ r) = true := decide_eq_true h0.1;have e2 : decide (r < 128) = true := decide_eq_true h0.2;simp only [go_sem, ir228, e1, e2, simprocAttr];refine wc ((walk309 _ _).call trivial) trivial
 by_cases h1 : r = 65533
 ·subst h1;exact ⟨-1, rune_err, oM, oM⟩
 refine ⟨-1, ?_, oM, oM⟩;refine ok228.pc ?_;simp only [go_sem, ir228, simprocAttr];refine sq (decide (r < 128)) ?_ ?_
 all_goals simp only [go_sem, simprocAttr]
 have e0 : (decide (0 ≤ r) && decide (r < 128)) = false := sO;have e1 : (r == 65533) = false := sX h1;simp only [go_sem, e0, e1, simprocAttr];refine wc ((walk310 r).call trivial) ?_;apply ik <;> intro hv
 ·trivial
 have hval : Utf8.valid r = true := by
  simp only [Bool.not_eq_false'] at hv;simp only [validR, Bool.or_eq_true, Bool.and_eq_true, decide_eq_true_eq] at hv;simp only [Utf8.valid, Bool.and_eq_true, Bool.or_eq_true, decide_eq_true_eq, Bool.not_eq_true', decide_eq_false_iff_not];omega
 have hr128 : 128 ≤ r := by
  simp only [Bool.not_eq_false'] at hv;simp only [validR, Bool.or_eq_true, Bool.and_eq_true, decide_eq_true_eq] at hv;omega
 obtain ⟨l, c, he, hc1, hl1, hl2⟩ := enc_last hval hr128;rw [he];have hw : IntKind.i64.wrap (((l ++ [c]).length : Int) - 1) = (l.length : Int) := by
  rw [List.length_append, List.length_singleton];rw [wrap64 oM oM]; omega
 rw [hw];have hnx : ∀ t : Str, (∀ b ∈ t, b.toNat < 128) → ixb t (c.toNat : Int) = -1 := by
  intro t ht;have hk : ∀ (t : Str) k, (∀ b ∈ t, b.toNat < 128) → idxB t c k = -1 := by
   intro t
   induction t with
   | nil => intro k _; rfl
   | cons b t ih =>
    intro k ht;have hb := ht b List.mem_cons_self;have hne : (b == c) = false := by
     rw [beq_eq_false_iff_ne]; rintro rfl; omega
    rw [idxB, hne];exact ih (k + 1) fun b hb => ht b (List.mem_cons_of_mem _ hb)
  have e : (c.toNat : Int).toNat.toUInt8 = c := sP;rw [ixb, e];exact hk t 0 ht
 have hg : ((l ++ [c]).getD l.length 0) = c := sP;refine wpc_loop (fun n s => n = 0 ∧ s = ⟨[(0, .d (.str sgn3)), (7, .d (.str (l ++ [c]))), (8, .d (.int .i64 l.length)), (9, .d (.int .i64 l.length))], []⟩) ⟨0, _, Wk.refl _, rfl, rfl⟩ ?_;rintro n s ⟨rfl, rfl⟩;have k1 : ((1 : Nat) : Int) = 1 := rfl;have k2 : ((3 : Nat) : Int) = 3 := rfl;have k3 : ((2 : Nat) : Int) = 2 := rfl;rcases (by omega : l.length = 1 ∨ l.length = 2 ∨ l.length = 3) with h | h | h
 ·rw [h] at hg ⊢;have hlen : (l ++ [c]).length = 2 := by simp [h]
  have t1 : Int.toNat 1 = 1 := rfl;refine zz69 ?_;refine ⟨fun _ => ⟨⟨dC, dC⟩, ⟨dC, dC⟩, fun _ => ⟨⟨dC, dC, dC⟩, ⟨dC, dC⟩, ?_⟩, fun hne => ?_⟩, fun h => by simp at h⟩
  ·refine wn ((walk309 _ _).call trivial) ?_;rw [hnx _ dC];refine zz ?_;refine ⟨fun _ => ?_, fun h => by simp at h⟩;trivial
  ·exfalso;simp only [bne_eq_false_iff_eq, Int.ofNat_inj] at hne
   have : UInt8.toNat 91 < 128 := dC;omega
 ·rw [h] at hg ⊢;have hlen : (l ++ [c]).length = 3 := by simp [h]
  have t1 : Int.toNat 2 = 2 := rfl;refine zz69 ?_;refine ⟨fun _ => ⟨⟨dC, dC⟩, ⟨dC, dC⟩, fun _ => ⟨⟨dC, dC, dC⟩, ⟨dC, dC⟩, ?_⟩, fun hne => ?_⟩, fun h => by simp at h⟩
  ·refine wn ((walk309 _ _).call trivial) ?_;rw [hnx _ dC];refine zz ?_;refine ⟨fun _ => ?_, fun h => by simp at h⟩;trivial
  ·exfalso;simp only [bne_eq_false_iff_eq, Int.ofNat_inj] at hne
   have : UInt8.toNat 63 < 128 := dC;omega
 ·rw [h] at hg ⊢;have hlen : (l ++ [c]).length = 4 := by simp [h]
  simp only [go_sem, sgn3, hlen, hg, k1, k2, k3, List.length_cons, List.length_nil, simprocAttr];refine ⟨fun h => by simp at h, fun _ => ?_⟩;trivial
theorem walk229 (n : Int) : PT 229 [.int .i64 n] (.d (.bool (decide (n > 8)))) := by
 refine ok229.pc ?_;simp only [go_sem, ir229, simprocAttr]
theorem idsInL_d {G : Nat → Option Av.Obj} : ∀ cs : List Dat, idsInL G (cs.map .d)
 | [] => trivial
 | _ :: r => ⟨trivial, idsInL_d r⟩
theorem renL_d (ρ : Nat → Nat) : ∀ cs : List Dat, renL ρ (cs.map .d) = cs.map .d
 | [] => rfl
 | _ :: r => by simp only [List.map_cons, renL, Av.ren, renL_d ρ r]
theorem closed_box (i : Nat) (cs : List Dat) : closed (get [(i, .box (cs.map .d))]) := by
 refine closed_of ?_;simp only [closedH, objIn, idsInL_d, and_true]
theorem Con.ro {P : Program} {f : Nat} {ds cs : List Dat} {r : Dat} (h : Con P f (.ref 1000 0 :: ds.map .d) [(1000, .box (cs.map .d))] (.d r) []) (i : Nat) :
  CallOK P f (.ref i 0 :: ds.map .d) [(i, some (.box (cs.map .d)))] (.d r) [] := by
 have h1 : ∀ j, (get [(1000, Obj.box (cs.map .d))] j).isSome = true → j = 1000 := by
  intro j hj;simp only [Av.get] at hj;split at hj
  ·rename_i e; exact e.symm
  ·cases hj
 have := h.call (fun _ => i) (fun j hj => by rw [h1 j hj]; decide) (fun a b ha hb _ => by rw [h1 a ha, h1 b hb]) ?_ (closed_box _ _) [] sP (closed_box _ _) trivial
 ·have e : (ds.map Av.d).map (Av.ren fun _ => i) = ds.map Av.d := by
   rw [List.map_map]; exact List.map_congr_left fun x _ => by simp [Av.ren]
  simpa [Av.ren, Obj.ren, renL_d, e] using this
 ·intro c hc;rcases List.mem_cons.1 hc with rfl | hc
  ·rfl
  ·obtain ⟨x, _, rfl⟩ := List.mem_map.1 hc; trivial
theorem walk231 (bs : List Bool) (c : Nat) (hb : bs.length = 256) (hc : c < 256) :
  KT 231 (.ref 1000 0 :: [Dat.int .u8 c].map .d) [(1000, .box ((bs.map .bool).map .d))] (.d (.bool (bs.getD c false))) [] := by
 refine ok231.co (k := false) (closed_box _ _) trivial ?_;have hx : ((bs.map Dat.bool).map Av.d)[c * 1]? = some (.d (.bool (bs.getD c false))) := by simp [List.getElem?_map, List.getD_eq_getElem?_getD, hb, hc]
 simp only [List.map_cons, List.map_nil];simp only [go_sem, ir231, Int.toNat_natCast, hx, simprocAttr];omega
noncomputable def rn (r : Int) : Int := Classical.choose (walk228 r)
theorem walk228' (r : Int) : PT 228 [.str sgn3, .int .i32 r] (.d (.int .i64 (rn r))) := (Classical.choose_spec (walk228 r)).1
theorem decode_pos (s : ByteArray) (i : Nat) : 1 ≤ (Utf8.decode s i).2 := by
 unfold Utf8.decode;dsimp only
 repeat' split
 all_goals simp
noncomputable def rnR (s : Str) : Nat → Nat → Int
 | 0, _ => -1
 | f + 1, p => if p < s.length then (if 0 ≤ rn (Utf8.decode ⟨s.toArray⟩ p).1 then (p : Int) else rnR s f (p + (Utf8.decode ⟨s.toArray⟩ p).2)) else -1
theorem rnR_bd (s : Str) : ∀ f p, -1 ≤ rnR s f p ∧ rnR s f p < s.length
 | 0, p => by simp only [rnR]; omega
 | f + 1, p => by
  have := rnR_bd s f (p + (Utf8.decode ⟨s.toArray⟩ p).2);simp only [rnR];split
  ·split
   ·omega
   ·exact this
  ·omega
def fst3 (s : Str) : Int := match s.findIdx? (fun c => as3.getD c.toNat false) with
 | some k => (k : Int)
 | none => -1
theorem fst3_bd (s : Str) : -1 ≤ fst3 s ∧ fst3 s < s.length := by
 unfold fst3;split
 ·rename_i k h;have := (List.findIdx?_eq_some_iff_getElem.1 h).1;omega
 ·omega
noncomputable def anyI (s : Str) : Int := if (s.length : Int) > 8 then fst3 s else rnR s (s.length + 1) 0
theorem anyI_bd (s : Str) : -1 ≤ anyI s ∧ anyI s < s.length := by
 unfold anyI;split
 ·exact fst3_bd s
 ·exact rnR_bd _ _ _
theorem as3_len : as3.length = 256 := dC
theorem walk147 (s : Str) (hs : s.length ≤ 68719476736) : PT 147 [.str s, .str sgn3] (.d (.int .i64 (anyI s))) := by
 refine ok147.pc ?_;have e1 : (sgn3 == ([] : Str)) = false := dC;have e2 : (((sgn3.length : Nat) : Int) == 1) = false := dC;simp only [go_sem, ir147, e1, e2, simprocAttr];refine wc ((walk229 _).call trivial) ?_;apply ik <;> intro h8
 ·have ha : anyI s = fst3 s := by simp only [decide_eq_true_eq] at h8; unfold anyI; rw [if_pos h8]
  rw [ha];refine wn (set3.call (by simp [pureR])) ?_;have hl : (List.map Av.d (List.map Dat.bool as3)).length = 256 := by simp [as3_len]
  simp only [go_sem, hl, List.length_cons, List.length_nil, Nat.reduceAdd, Nat.reduceEqDiff, Nat.reduceBEq, Nat.reduceLeDiff, reduceCtorEq, ↓reduceIte, Nat.le_refl, and_self];refine wpc_loop (fun n st => ∃ k : Nat, k ≤ s.length ∧ n = s.length - k ∧ (∀ (j : Nat) (h : j < s.length), j < k → as3.getD s[j].toNat false = false) ∧
   st = ⟨[(0, .d (.str s)), (6, .ref 6 0), (8, .d (.int .i64 k))], [(6, .box ((as3.map .bool).map .d))]⟩) ?_ ?_
  ·exact ⟨_, _, Wk.refl _, 0, Nat.zero_le _, rfl, sP, rfl⟩
  ·rintro n st ⟨k, hk, rfl, hinv, rfl⟩;by_cases hlt : k < s.length
   ·have hd := dT hlt;have hg : s.getD k 0 = s[k] := by simp [List.getD_eq_getElem?_getD, hlt]
    simp only [go_sem, hd, hg, Int.toNat_natCast, simprocAttr];have hc := Con.ro (walk231 as3 s[k].toNat as3_len (UInt8.toNat_lt _)) 6;refine ⟨oM, wn hc ?_⟩;refine zz ?_;apply ik <;> intro hf
    ·have : s.findIdx? (fun c => as3.getD c.toNat false) = some k := by
      rw [List.findIdx?_eq_some_iff_getElem];exact ⟨hlt, hf, fun j hj => by rw [hinv j oM hj]; decide⟩
     simp only [fst3, this]
    ·refine ⟨s.length - (k + 1), _, oM, Wk.less ?_, k + 1, oM, rfl, ?_, rfl⟩
     ·simp only [go_sem, wrap64s k oM, idsInL_d, simprocAttr]
     ·intro j h hj;by_cases e : j = k
      ·subst e; exact hf
      ·exact hinv j h oM
   ·have hd := dF hlt;refine zz15 ?_;have : s.findIdx? (fun c => as3.getD c.toNat false) = none := by
     rw [List.findIdx?_eq_none_iff];intro x hx;obtain ⟨j, hj, rfl⟩ := List.getElem_of_mem hx;exact hinv j hj oM
    simp only [fst3, this]
 ·have ha : anyI s = rnR s (s.length + 1) 0 := by simp only [decide_eq_false_iff_not] at h8; unfold anyI; rw [if_neg h8]
  rw [ha];generalize hR : rnR s (s.length + 1) 0 = R;refine wpc_loop (fun n st => ∃ p : Nat, s.length < n + p ∧ R = rnR s n p ∧ st = ⟨[(1, .d (.str sgn3)), (45, .mp 45)], [(45, .sit s p)]⟩) ?_ ?_
  ·exact ⟨s.length + 1, _, Wk.refl _, 0, oM, hR.symm, rfl⟩
  ·rintro n st ⟨p, hp, hr, rfl⟩;by_cases hlt : p < s.length
   ·obtain ⟨n, rfl⟩ : ∃ m, n = m + 1 := by
     cases n with
     | zero => omega
     | succ m => exact ⟨m, rfl⟩
    have hdp := decode_pos ⟨s.toArray⟩ p;simp only [rnR, hlt, ↓reduceIte] at hr;simp only [go_sem, hlt, simprocAttr];refine wc ((walk228' _).call trivial) ?_;apply ik <;> intro hf
    ·simp only [decide_eq_true_eq] at hf;have hf' : 0 ≤ rn (Utf8.decode ⟨s.toArray⟩ p).1 := hf;rw [if_pos hf'] at hr;rw [hr]
    ·simp only [decide_eq_false_iff_not] at hf;have hf' : ¬ 0 ≤ rn (Utf8.decode ⟨s.toArray⟩ p).1 := hf;refine ⟨n, _, oM, Wk.less ?_, p + (Utf8.decode ⟨s.toArray⟩ p).2, oM, ?_, rfl⟩
     ·exact zz trivial
     ·rw [if_neg hf'] at hr;exact hr
   ·simp only [go_sem, hlt, simprocAttr];have : rnR s n p = -1 := by
     cases n with
     | zero => rfl
     | succ n => simp [rnR, hlt]
    rw [hr, this]
theorem walk232 (s p : Str) (hp : p.length ≤ 68719476736) : PT 232 [.str s, .str p] (.d (.bool (decide ((s.length : Int) ≥ p.length) && (s.take p.length == p)))) := by
 refine ok232.pc ?_;simp only [go_sem, ir232, simprocAttr];refine scQ_pure (s.take p.length == p) (fun h => ?_) ?_
 ·simp only [decide_eq_true_eq] at h;simp only [go_sem, Int.toNat_natCast, Int.toNat_zero, List.drop_zero, Nat.sub_zero, simprocAttr];have e : ((p.length : Int) - 0).toNat = p.length := oM;rw [e];exact ⟨oM, rfl⟩
 ·exact zz trivial
def preS (s p : Str) : Bool := decide ((s.length : Int) ≥ p.length) && (s.take p.length == p)
theorem walk148 (s p : Str) (hp : p.length ≤ 68719476736) : PT 148 [.str s, .str p] (.d (.bool (preS s p))) := by
 refine ok148.pc ?_;simp only [go_sem, ir148, simprocAttr];refine wn ((walk232 s p hp).call trivial) ?_;simp only [go_sem, preS, simprocAttr]
theorem k1' : ((1 : Nat) : Int) = 1 := rfl
theorem l10 : ((1 : Int) == 0) = false := rfl
theorem l11 : ((1 : Int) == 1) = true := rfl
theorem t0' : Int.toNat 0 = 0 := rfl
theorem walk313 (s : Str) (c : UInt8) : PT 313 [.str s, .str [c]] (.d (.int .i64 (ixb s c.toNat))) := by
 refine ok313.pc ?_;have e3 : (([c] : Str).getD 0 0) = c := rfl;simp only [go_sem, ir313, k1', l10, l11, t0', e3, List.length_singleton, Nat.reduceAdd, Nat.reduceEqDiff, Nat.reduceBEq, Nat.reduceLeDiff, reduceCtorEq, ↓reduceIte];refine ⟨fun h => ?_, fun h => ⟨dC, ?_⟩⟩
 ·simp only [beq_iff_eq] at h;subst h;have : ixb [c] c.toNat = 0 := by simp [ixb, idxB]
  rw [this]
 ·refine wc ((walk374 _ _).call trivial) trivial
theorem ixb_lt (s : Str) (c : UInt8) : ixb s c.toNat < s.length := by
 have hk : ∀ (t : Str) k, idxB t c k < (t.length + k : Nat) ∨ idxB t c k = -1 := by
  intro t
  induction t with
  | nil => intro k; right; rfl
  | cons b t ih =>
   intro k;rw [idxB];split
   ·left; simp only [List.length_cons]; omega
   ·rcases ih (k + 1) with h | h
    ·left; simp only [List.length_cons]; omega
    ·right; exact h
 have e : (c.toNat : Int).toNat.toUInt8 = c := sP;rw [ixb, e];rcases hk s 0 with h | h
 ·simpa using h
 ·omega
def cutS (s : Str) (c : UInt8) : Str × Str × Bool := if ixb s c.toNat ≥ 0 then (s.take (ixb s c.toNat).toNat, s.drop ((ixb s c.toNat).toNat + 1), true) else (s, [], false)
theorem walk233 (s : Str) (c : UInt8) (hs : s.length ≤ 68719476736) : PT 233 [.str s, .str [c]] (.tup [.d (.str (cutS s c).1), .d (.str (cutS s c).2.1), .d (.bool (cutS s c).2.2)]) := by
 refine ok233.pc ?_;simp only [go_sem, ir233, Nat.reduceAdd, Nat.reduceEqDiff, Nat.reduceBEq, Nat.reduceLeDiff, reduceCtorEq, ↓reduceIte];refine wn ((walk313 s c).call trivial) ?_;simp only [go_sem, k1', List.length_singleton, Nat.reduceAdd, Nat.reduceEqDiff, Nat.reduceBEq, Nat.reduceLeDiff, reduceCtorEq, ↓reduceIte];have hlt := ixb_lt s c;have hge := (ixb_le s c.toNat).1;apply ik <;> intro h
 ·simp only [decide_eq_true_eq] at h;have hw : IntKind.i64.wrap (ixb s c.toNat + 1) = ixb s c.toNat + 1 := wrap64 oM oM;simp only [hw];have e1 : s.take ((ixb s c.toNat) - 0).toNat = s.take (ixb s c.toNat).toNat := by rw [Int.sub_zero]
  have e2 : ((s.length : Int) - (ixb s c.toNat + 1)).toNat = (s.drop (ixb s c.toNat + 1).toNat).length := by rw [List.length_drop]; omega
  have e3 : (ixb s c.toNat + 1).toNat = (ixb s c.toNat).toNat + 1 := oM;have e4 : cutS s c = (s.take (ixb s c.toNat).toNat, s.drop ((ixb s c.toNat).toNat + 1), true) := by unfold cutS; rw [if_pos h]
  refine ⟨oM, oM, ?_⟩;rw [t0', List.drop_zero, e1, e2, List.take_length, e3, e4]
 ·simp only [decide_eq_false_iff_not] at h;have : cutS s c = (s, [], false) := by unfold cutS; rw [if_neg h]
  rw [this]
theorem walk149 (s : Str) (c : UInt8) (hs : s.length ≤ 68719476736) : PT 149 [.str s, .str [c]] (.tup [.d (.str (cutS s c).1), .d (.str (cutS s c).2.1), .d (.bool (cutS s c).2.2)]) := by
 refine ok149.pc ?_;simp only [go_sem, ir149, simprocAttr];refine wc ((walk233 s c hs).call (by simp [pureR])) trivial
def nameC (c : UInt8) : Bool := !((decide ((c.toNat : Int) < 97) || decide ((c.toNat : Int) > 122)) && (decide ((c.toNat : Int) < 48) || decide ((c.toNat : Int) > 57)) && ((c.toNat : Int) != 95))
def nameS (s : Str) : Bool := !(s == [] || decide ((s.length : Int) > 32) || decide (((s.getD 0 0).toNat : Int) < 97) || decide (((s.getD 0 0).toNat : Int) > 122)) && s.all nameC
theorem walk151 (s : Str) (hs : s.length ≤ 68719476736) : PT 151 [.str s] (.d (.bool (nameS s))) := by
 refine ok151.pc ?_;cases s with
 | nil =>
  simp only [go_sem, ir151, Nat.reduceAdd, Nat.reduceEqDiff, Nat.reduceBEq, Nat.reduceLeDiff, reduceCtorEq, ↓reduceIte];rfl
 | cons c t =>
  have e0 : ((c :: t : Str) == []) = false := rfl;have e1 : (c :: t).getD 0 0 = c := rfl;simp only [go_sem, ir151, e0, e1, t0', Nat.reduceAdd, Nat.reduceEqDiff, Nat.reduceBEq, Nat.reduceLeDiff, reduceCtorEq, ↓reduceIte];generalize hb : (c :: t : Str) = s at *;have hl : 0 < s.length := by rw [← hb]; simp
  have hlen : (t.length + 1 : Nat) = s.length := by rw [← hb]; simp
  have hc0 : s.getD 0 0 = c := by rw [← hb]; rfl
  have e0' : (s == []) = false := by rw [← hb]; rfl
  rw [hlen];refine sq (decide ((c.toNat : Int) < 97)) ?_ ?_
  ·simp only [go_sem, t0', hc0, Nat.reduceAdd, Nat.reduceEqDiff, Nat.reduceBEq, Nat.reduceLeDiff, reduceCtorEq, ↓reduceIte];omega
  refine zz ?_;refine sq (decide ((c.toNat : Int) > 122)) ?_ ?_
  ·simp only [go_sem, t0', hc0, Nat.reduceAdd, Nat.reduceEqDiff, Nat.reduceBEq, Nat.reduceLeDiff, reduceCtorEq, ↓reduceIte];omega
  refine zz ?_;apply ik <;> intro h
  ·have : nameS s = false := by unfold nameS; rw [e0', hc0, Bool.false_or, h]; rfl
   rw [this]
  have hn : nameS s = s.all nameC := by unfold nameS; rw [e0', hc0, Bool.false_or, h]; rfl
  rw [hn];refine zz7 ?_;refine wpc_loop (fun n st => ∃ k : Nat, k ≤ s.length ∧ n = s.length - k ∧ s.all nameC = (s.drop k).all nameC ∧
   st = ⟨[(23, .d (.list 1 (s.map fun b => .int .u8 b.toNat))), (24, .d (.int .i64 s.length)), (25, .d (.int .i64 k))], []⟩) ?_ ?_
  ·exact ⟨_, _, Wk.refl _, 0, Nat.zero_le _, rfl, rfl, rfl⟩
  ·rintro n st ⟨k, hk, rfl, hinv, rfl⟩;by_cases hlt : k < s.length
   ·have hd := dT hlt;have hg : nth (s.map fun b => Dat.int .u8 b.toNat) k = .int .u8 s[k].toNat := by rw [nth_eq (sX hlt)]; simp
    rw [List.drop_eq_getElem_cons hlt, List.all_cons] at hinv;simp only [go_sem, hd, hg, Int.toNat_natCast, List.length_map, Nat.reduceAdd, Nat.reduceEqDiff, Nat.reduceBEq, Nat.reduceLeDiff, reduceCtorEq, ↓reduceIte];generalize hx : (s[k].toNat : Int) = x at *;refine ⟨oM, oM, ?_⟩;refine sq (decide (x > 122)) ?_ ?_
    ·exact zz trivial
    refine zz ?_;refine sq (decide (x < 48) || decide (x > 57)) ?_ ?_
    ·refine zz ?_;refine sq (decide (x > 57)) ?_ ?_
     ·exact zz trivial
     exact zz trivial
    refine zz ?_;refine sq (x != 95) ?_ ?_
    ·exact zz trivial
    refine zz ?_;have hcx : nameC s[k] = !((decide (x < 97) || decide (x > 122)) && (decide (x < 48) || decide (x > 57)) && (x != 95)) := by rw [← hx]; rfl
    apply ik <;> intro hf
    ·rw [hcx, hf, Bool.not_true, Bool.false_and] at hinv;rw [hinv]
    ·rw [hcx, hf, Bool.not_false, Bool.true_and] at hinv;refine ⟨s.length - (k + 1), _, oM, Wk.less ?_, k + 1, oM, rfl, hinv, rfl⟩;exact zz10 trivial
   ·have hd := dF hlt;obtain rfl : k = s.length := oM;rw [List.drop_length, List.all_nil] at hinv;exact zz55 trivial
structure Part where
 kind : Int
 index : Int
 name : Str
def encP (p : Part) : Dat := .agg [.int .i64 p.kind, .int .i64 p.index, .str p.name]
def validP (p : Part) : Bool :=
 if p.kind = 1 ∨ p.kind = 4 then (p.index == 0) && nameS p.name else if p.kind = 2 then (p.name == []) && decide (p.index ≥ 0) && decide (p.index < 256) else if p.kind = 3 then (p.name == []) && (p.index == 0) else false
theorem walk74 (p : Part) (hp : p.name.length ≤ 68719476736) : PT 74 [encP p] (.d (.bool (validP p))) := by
 refine ok74.pc ?_;obtain ⟨k, i, n⟩ := p;simp only at hp;simp only [encP];by_cases h1 : k = 1 ∨ k = 4
 ·have hv : validP ⟨k, i, n⟩ = ((i == 0) && nameS n) := by unfold validP; rw [if_pos h1]
  rw [hv];rcases h1 with rfl | rfl
  ·simp only [go_sem, ir74, beq_self_eq_true, simprocAttr];refine sq (nameS n) ?_ ?_
   ·refine zz ?_;refine wc ((walk151 n hp).call trivial) trivial
   ·exact zz trivial
  ·have q1 : ((4 : Int) == 1) = false := rfl;simp only [go_sem, ir74, q1, beq_self_eq_true, simprocAttr];refine sq (nameS n) ?_ ?_
   ·refine zz ?_;refine wc ((walk151 n hp).call trivial) trivial
   ·exact zz trivial
 ·have q1 : (k == 1) = false := sO;have q4 : (k == 4) = false := sO;by_cases h2 : k = 2
  ·subst h2;have hv : validP ⟨2, i, n⟩ = ((n == []) && decide (i ≥ 0) && decide (i < 256)) := by unfold validP; rw [if_neg h1, if_pos rfl]
   rw [hv];simp only [go_sem, ir74, q1, q4, beq_self_eq_true, simprocAttr];refine sq (decide (i ≥ 0)) ?_ ?_
   ·exact zz trivial
   refine zz ?_;refine sq (decide (i < 256)) ?_ ?_
   ·exact zz trivial
   exact zz trivial
  ·have q2 : (k == 2) = false := sO;by_cases h3 : k = 3
   ·subst h3;have hv : validP ⟨3, i, n⟩ = ((n == []) && (i == 0)) := by unfold validP; rw [if_neg h1, if_neg h2, if_pos rfl]
    rw [hv];simp only [go_sem, ir74, q1, q2, q4, beq_self_eq_true, simprocAttr];refine sq (i == 0) ?_ ?_
    ·exact zz trivial
    exact zz trivial
   ·have q3 : (k == 3) = false := sO;have hv : validP ⟨k, i, n⟩ = false := by unfold validP; rw [if_neg h1, if_neg h2, if_neg h3]
    rw [hv];simp only [go_sem, ir74, q1, q2, q3, q4, simprocAttr]
end Go.Proofs
namespace Go.Proofs
open Go.Shelf
def Tryz.laysM171_ren : Go.Shelf.Ren := ⟨fun | 171 => 100 | 243 => 200 | 246 => 277 | 283 => 344 | 284 => 345 | 285 => 346 | 286 => 347 | 129 => 256 | 317 => 391 | 318 => 392 | 319 => 393 | 320 => 394 | 337 => 417 | 338 => 418 | n => n, fun | 3 => 3 | 9 => 9 | 2 => 2 | 4 => 4 | 171 => 390 | 0 => 0 | 53 => 320 | 37 => 299 | 5 => 5 | 173 => 392 | 212 => 431 | 51 => 318 | 20 => 20 | 213 => 432 | 46 => 257 | 232 => 459 | 233 => 460 | n => n, fun | 17 => 5 | 18 => 6 | 19 => 7 | n => n⟩
theorem Tryz.laysM171 : Go.Proofs.LaysM.n171 Tryz.prog Tryz.laysM171_ren := {
 mixed := kR
 f129 := Tryz.func256.trans (congrArg some kR)
 f171 := Tryz.func100.trans (congrArg some kR)
 f243 := Tryz.func200.trans (congrArg some kR)
 f246 := Tryz.func277.trans (congrArg some kR)
 f283 := Tryz.func344.trans (congrArg some kR)
 f284 := Tryz.func345.trans (congrArg some kR)
 f285 := Tryz.func346.trans (congrArg some kR)
 f286 := Tryz.func347.trans (congrArg some kR)
 f317 := Tryz.func391.trans (congrArg some kR)
 f318 := Tryz.func392.trans (congrArg some kR)
 f319 := Tryz.func393.trans (congrArg some kR)
 f320 := Tryz.func394.trans (congrArg some kR)
 f337 := Tryz.func417.trans (congrArg some kR)
 f338 := Tryz.func418.trans (congrArg some kR)
 t0 := Tryz.underlying0
 a0 := Tryz.isAgg0
 z0 := Tryz.sizeOf0
 v0 := Tryz.zeroValue0
 t2 := Tryz.underlying2
 a2 := Tryz.isAgg2
 z2 := Tryz.sizeOf2
 v2 := Tryz.zeroValue2
 t3 := Tryz.underlying3
 a3 := Tryz.isAgg3
 z3 := Tryz.sizeOf3
 v3 := Tryz.zeroValue3
 t4 := Tryz.underlying4
 a4 := Tryz.isAgg4
 z4 := Tryz.sizeOf4
 v4 := Tryz.zeroValue4
 t5 := Tryz.underlying5
 a5 := Tryz.isAgg5
 z5 := Tryz.sizeOf5
 v5 := Tryz.zeroValue5
 t9 := Tryz.underlying9
 a9 := Tryz.isAgg9
 z9 := Tryz.sizeOf9
 v9 := Tryz.zeroValue9
 t20 := Tryz.underlying20
 a20 := Tryz.isAgg20
 z20 := Tryz.sizeOf20
 v20 := Tryz.zeroValue20
 t37 := Tryz.underlying299
 a37 := Tryz.isAgg299
 z37 := Tryz.sizeOf299
 v37 := Tryz.zeroValue299
 t46 := Tryz.underlying257
 a46 := Tryz.isAgg257
 z46 := Tryz.sizeOf257
 v46 := Tryz.zeroValue257
 t51 := Tryz.underlying318
 a51 := Tryz.isAgg318
 z51 := Tryz.sizeOf318
 v51 := Tryz.zeroValue318
 t53 := Tryz.underlying320
 a53 := Tryz.isAgg320
 z53 := Tryz.sizeOf320
 v53 := Tryz.zeroValue320
 t171 := Tryz.underlying390
 a171 := Tryz.isAgg390
 z171 := Tryz.sizeOf390
 v171 := Tryz.zeroValue390
 t173 := Tryz.underlying392
 a173 := Tryz.isAgg392
 z173 := Tryz.sizeOf392
 v173 := Tryz.zeroValue392
 t212 := Tryz.underlying431
 a212 := Tryz.isAgg431
 z212 := Tryz.sizeOf431
 v212 := Tryz.zeroValue431
 t213 := Tryz.underlying432
 a213 := Tryz.isAgg432
 z213 := Tryz.sizeOf432
 t232 := Tryz.underlying459
 a232 := Tryz.isAgg459
 z232 := Tryz.sizeOf459
 v232 := Tryz.zeroValue459
 t233 := Tryz.underlying460
 a233 := Tryz.isAgg460
 z233 := Tryz.sizeOf460
 v233 := Tryz.zeroValue460
 g17 := kR
 g18 := kR
 g19 := kR
 i0 := kR
 i2 := kR
 i3 := kR
 i4 := kR
 i5 := kR
 i9 := kR
 i20 := kR
 i37 := kR
 i46 := kR
 i51 := kR
 i53 := kR
 i171 := kR
 i173 := kR
 i212 := kR
 i232 := kR
 i233 := kR
 m17 := kR
 m18 := kR
 m19 := by kernel_rfl }
def Tryz.laysC172_ren : Go.Shelf.Ren := ⟨fun | 172 => 150 | 244 => 234 | 245 => 235 | 247 => 314 | 279 => 315 | 280 => 316 | 281 => 317 | 282 => 318 | 287 => 376 | 316 => 377 | 171 => 100 | 205 => 378 | 321 => 404 | 322 => 405 | 243 => 200 | 246 => 277 | 283 => 344 | 284 => 345 | 285 => 346 | 286 => 347 | 129 => 256 | 317 => 391 | 318 => 392 | 319 => 393 | 320 => 394 | 337 => 417 | 338 => 418 | n => n, fun | 9 => 9 | 3 => 3 | 75 => 235 | 76 => 236 | 4 => 4 | 5 => 5 | 167 => 361 | 37 => 299 | 0 => 0 | 85 => 362 | 2 => 2 | 168 => 364 | 53 => 320 | 175 => 411 | 46 => 257 | 210 => 414 | 127 => 423 | 145 => 442 | 143 => 440 | 21 => 21 | 171 => 390 | 173 => 392 | 212 => 431 | 51 => 318 | 20 => 20 | 213 => 432 | 232 => 459 | 233 => 460 | 80 => 243 | n => n, fun | 15 => 3 | 16 => 4 | 17 => 5 | 18 => 6 | 19 => 7 | n => n⟩
theorem Tryz.laysC172 : Go.Proofs.LaysC.n172 Tryz.prog Tryz.laysC172_ren := {
 mixed := kR
 f129 := Tryz.func256.trans (congrArg some kR)
 f171 := Tryz.func100.trans (congrArg some kR)
 f172 := Tryz.func150.trans (congrArg some kR)
 f205 := Tryz.func378.trans (congrArg some kR)
 f243 := Tryz.func200.trans (congrArg some kR)
 f244 := Tryz.func234.trans (congrArg some kR)
 f245 := Tryz.func235.trans (congrArg some kR)
 f246 := Tryz.func277.trans (congrArg some kR)
 f247 := Tryz.func314.trans (congrArg some kR)
 f279 := Tryz.func315.trans (congrArg some kR)
 f280 := Tryz.func316.trans (congrArg some kR)
 f281 := Tryz.func317.trans (congrArg some kR)
 f282 := Tryz.func318.trans (congrArg some kR)
 f283 := Tryz.func344.trans (congrArg some kR)
 f284 := Tryz.func345.trans (congrArg some kR)
 f285 := Tryz.func346.trans (congrArg some kR)
 f286 := Tryz.func347.trans (congrArg some kR)
 f287 := Tryz.func376.trans (congrArg some kR)
 f316 := Tryz.func377.trans (congrArg some kR)
 f317 := Tryz.func391.trans (congrArg some kR)
 f318 := Tryz.func392.trans (congrArg some kR)
 f319 := Tryz.func393.trans (congrArg some kR)
 f320 := Tryz.func394.trans (congrArg some kR)
 f321 := Tryz.func404.trans (congrArg some kR)
 f322 := Tryz.func405.trans (congrArg some kR)
 f337 := Tryz.func417.trans (congrArg some kR)
 f338 := Tryz.func418.trans (congrArg some kR)
 t0 := Tryz.underlying0
 a0 := Tryz.isAgg0
 z0 := Tryz.sizeOf0
 v0 := Tryz.zeroValue0
 t2 := Tryz.underlying2
 a2 := Tryz.isAgg2
 z2 := Tryz.sizeOf2
 v2 := Tryz.zeroValue2
 t3 := Tryz.underlying3
 a3 := Tryz.isAgg3
 z3 := Tryz.sizeOf3
 v3 := Tryz.zeroValue3
 t4 := Tryz.underlying4
 a4 := Tryz.isAgg4
 z4 := Tryz.sizeOf4
 v4 := Tryz.zeroValue4
 t5 := Tryz.underlying5
 a5 := Tryz.isAgg5
 z5 := Tryz.sizeOf5
 v5 := Tryz.zeroValue5
 t9 := Tryz.underlying9
 a9 := Tryz.isAgg9
 z9 := Tryz.sizeOf9
 v9 := Tryz.zeroValue9
 t20 := Tryz.underlying20
 a20 := Tryz.isAgg20
 z20 := Tryz.sizeOf20
 v20 := Tryz.zeroValue20
 t21 := Tryz.underlying21
 a21 := Tryz.isAgg21
 z21 := Tryz.sizeOf21
 v21 := Tryz.zeroValue21
 t37 := Tryz.underlying299
 a37 := Tryz.isAgg299
 z37 := Tryz.sizeOf299
 v37 := Tryz.zeroValue299
 t46 := Tryz.underlying257
 a46 := Tryz.isAgg257
 z46 := Tryz.sizeOf257
 v46 := Tryz.zeroValue257
 t51 := Tryz.underlying318
 a51 := Tryz.isAgg318
 z51 := Tryz.sizeOf318
 v51 := Tryz.zeroValue318
 t53 := Tryz.underlying320
 a53 := Tryz.isAgg320
 z53 := Tryz.sizeOf320
 v53 := Tryz.zeroValue320
 t75 := Tryz.underlying235
 a75 := Tryz.isAgg235
 z75 := Tryz.sizeOf235
 v75 := Tryz.zeroValue235
 t76 := Tryz.underlying236
 a76 := Tryz.isAgg236
 z76 := Tryz.sizeOf236
 v76 := Tryz.zeroValue236
 t85 := Tryz.underlying362
 a85 := Tryz.isAgg362
 z85 := Tryz.sizeOf362
 v85 := Tryz.zeroValue362
 t127 := Tryz.underlying423
 a127 := Tryz.isAgg423
 z127 := Tryz.sizeOf423
 v127 := Tryz.zeroValue423
 t143 := Tryz.underlying440
 a143 := Tryz.isAgg440
 z143 := Tryz.sizeOf440
 v143 := Tryz.zeroValue440
 t145 := Tryz.underlying442
 a145 := Tryz.isAgg442
 z145 := Tryz.sizeOf442
 v145 := Tryz.zeroValue442
 t167 := Tryz.underlying361
 a167 := Tryz.isAgg361
 z167 := Tryz.sizeOf361
 v167 := Tryz.zeroValue361
 t168 := Tryz.underlying364
 a168 := Tryz.isAgg364
 z168 := Tryz.sizeOf364
 v168 := Tryz.zeroValue364
 t171 := Tryz.underlying390
 a171 := Tryz.isAgg390
 z171 := Tryz.sizeOf390
 v171 := Tryz.zeroValue390
 t173 := Tryz.underlying392
 a173 := Tryz.isAgg392
 z173 := Tryz.sizeOf392
 v173 := Tryz.zeroValue392
 t175 := Tryz.underlying411
 a175 := Tryz.isAgg411
 z175 := Tryz.sizeOf411
 v175 := Tryz.zeroValue411
 t210 := Tryz.underlying414
 a210 := Tryz.isAgg414
 z210 := Tryz.sizeOf414
 v210 := Tryz.zeroValue414
 t212 := Tryz.underlying431
 a212 := Tryz.isAgg431
 z212 := Tryz.sizeOf431
 v212 := Tryz.zeroValue431
 t213 := Tryz.underlying432
 a213 := Tryz.isAgg432
 z213 := Tryz.sizeOf432
 t232 := Tryz.underlying459
 a232 := Tryz.isAgg459
 z232 := Tryz.sizeOf459
 v232 := Tryz.zeroValue459
 t233 := Tryz.underlying460
 a233 := Tryz.isAgg460
 z233 := Tryz.sizeOf460
 v233 := Tryz.zeroValue460
 g15 := kR
 g16 := kR
 g17 := kR
 g18 := kR
 g19 := kR
 t80 := Tryz.underlying243
 a80 := Tryz.isAgg243
 z80 := Tryz.sizeOf243
 v80 := Tryz.zeroValue243
 i0 := kR
 i2 := kR
 i3 := kR
 i4 := kR
 i5 := kR
 i9 := kR
 i20 := kR
 i21 := kR
 i37 := kR
 i46 := kR
 i51 := kR
 i53 := kR
 i75 := kR
 i76 := kR
 i80 := kR
 i85 := kR
 i127 := kR
 i143 := kR
 i145 := kR
 i167 := kR
 i168 := kR
 i171 := kR
 i173 := kR
 i175 := kR
 i210 := kR
 i212 := kR
 i232 := kR
 i233 := kR
 m15 := kR
 m16 := kR
 m17 := kR
 m18 := kR
 m19 := kR
 c0 := kR
 c2 := kR
 c3 := kR
 c4 := kR
 c5 := kR
 c9 := kR
 c20 := kR
 c21 := kR
 c37 := kR
 c46 := kR
 c51 := kR
 c53 := kR
 c75 := kR
 c76 := kR
 c80 := kR
 c85 := kR
 c127 := kR
 c143 := kR
 c145 := kR
 c167 := kR
 c168 := kR
 c171 := kR
 c173 := kR
 c175 := kR
 c210 := kR
 c212 := kR
 c213 := kR
 c232 := kR
 c233 := by kernel_rfl }
end Go.Proofs
namespace Av
open Go Go.RowKit
variable [Glb] [Rls]
theorem CallOK.of_calls {P : Program} {f : Nat} {ds : List Dat} {v : Av} (hh : Has P f)
  (h : ∀ (A : Nat → Prop) (w : World) (vs : Array Value), ds.length = vs.size → (∀ (i : Nat) d u, ds[i]? = some d → vs[i]? = some u → Rep A w d u) →
   Calls P f vs w fun e w' => ∃ u, e = .returned u ∧ Below w.heap.size w w' ∧ ∀ β H, VRep β (fun b => A b) w' H v u) : CallOK P f (ds.map .d) [] v [] := by
 intro β A w H vs _ hc hvs;have hl : ds.length = vs.size := sX hvs.1;refine .inl ⟨hh, (h A w vs hl ?_).mono ?_⟩
 ·intro i d u hd hu;have := hvs.2 i (.d d) u (by rw [List.getElem?_map, hd]; rfl) hu;exact this.of_d
 ·rintro e w' ⟨u, rfl, hb, hr⟩;refine ⟨u, rfl, β, A, ?_, hr β _⟩;exact Stp.new hc hb.os hb.tape hb.output hb.size hb.block (fun _ h => h) (fun _ h => .inl h) (fun b hA => Nat.lt_of_lt_of_le (hc.old b hA) hb.size)
theorem CallOK.of_callsG {P : Program} {f : Nat} {ds : List Dat} {v : Av} (hh : Has P f)
  (h : ∀ (A : Nat → Prop) (w : World) (vs : Array Value), (∀ g cs, globOf g = some cs → GRep A w g cs) → ds.length = vs.size → (∀ (i : Nat) d u, ds[i]? = some d → vs[i]? = some u → Rep A w d u) →
   Calls P f vs w fun e w' => ∃ u, e = .returned u ∧ Below w.heap.size w w' ∧ ∀ β H, VRep β (fun b => A b) w' H v u) : CallOK P f (ds.map .d) [] v [] := by
 intro β A w H vs _ hc hvs;have hl : ds.length = vs.size := sX hvs.1;refine .inl ⟨hh, (h A w vs hc.glob hl ?_).mono ?_⟩
 ·intro i d u hd hu;have := hvs.2 i (.d d) u (by rw [List.getElem?_map, hd]; rfl) hu;exact this.of_d
 ·rintro e w' ⟨u, rfl, hb, hr⟩;refine ⟨u, rfl, β, A, ?_, hr β _⟩;exact Stp.new hc hb.os hb.tape hb.output hb.size hb.block (fun _ h => h) (fun _ h => .inl h) (fun b hA => Nat.lt_of_lt_of_le (hc.old b hA) hb.size)
end Av
namespace Go.Proofs
open Go Av Go.RowKit
variable {A : Nat → Prop} {w : World}
theorem hasT {f : Nat} {fn : Func} (h : Tryz.prog.funcs[f]? = some fn) (h1 : fn.body.isSome = true) (h2 : (fn.name == "runtime.NumGoroutine") = false) : Has Tryz.prog f := ⟨fn, h, h1, h2⟩
theorem one_arg {vs : Array Value} (h : 1 = vs.size) : ∃ x, vs = #[x] := by
 refine ⟨vs[0], ?_⟩;apply Array.ext
 ·simp [← h]
 ·intro i h1 h2;have : i = 0 := oM;subst this; rfl
def atoiV (s : Str) : Int × Dat := match Lib.atoiAll s with
 | .ok v => (v, .nilIface)
 | .range => (Lib.atoiSat s, .iface 364 .opq)
 | _ => (0, .iface 364 .opq)
theorem errCell (hg : ∀ g cs, globOf g = some cs → GRep A w g cs) (g : Nat) (h : globOf g = some [.iface 440 .opq]) :
  ∃ ev, w.cell? ⟨g, 0, none⟩ = some ev ∧ (ev = .nilIface ∨ ∃ te pe, ev = .iface te pe) := by
 obtain ⟨h0, C, T, fr, h1, h2, h3, h4⟩ := hg g _ h;have hs : C[0]? = some (C[0]'(by simp at h2; omega)) := sP;have := h4 0 _ _ rfl hs;refine ⟨C[0]'(by simp at h2; omega), ?_, ?_⟩
 ·simp [World.cell?, h1]
 ·generalize C[0]'(by simp at h2; omega) = v at this;cases this with
  | iface t x v h => exact .inr ⟨_, _, rfl⟩
theorem vrep_two {β : Blocks} {H : Heap} {x y : Dat} {u v : Value} (h1 : Rep A w x u) (h2 : Rep A w y v) : VRep β A w H (.tup [.d x, .d y]) (.tuple #[u, v]) := by
 refine .tup _ _ rfl ?_;intro i c z hc hz
 match i, hc, hz with
 | 0, hc, hz => cases hc; cases hz; exact .d _ _ h1
 | 1, hc, hz => cases hc; cases hz; exact .d _ _ h2
theorem i64b {v : Int} (h0 : -9223372036854775808 ≤ v) (h1 : v ≤ 9223372036854775807) : IntKind.i64.min ≤ v ∧ v ≤ IntKind.i64.max := by
 have e1 : IntKind.i64.min = -9223372036854775808 := dC;have e2 : IntKind.i64.max = 9223372036854775807 := dC;rw [e1, e2]; exact ⟨h0, h1⟩
theorem call150 (s : Str) (hs : s.length ≤ 68719476736) : CT 150 [.d (.str s)] [] (.tup [.d (.int .i64 (atoiV s).1), .d (atoiV s).2]) [] := by
 refine CallOK.of_callsG (ds := [.str s]) (hasT Tryz.func150 kR kR) ?_;intro A w vs hg hl hv;obtain ⟨x, rfl⟩ := one_arg hl;have hx := hv 0 _ x rfl rfl;cases hx with
 | str _ h =>
  have e : (⟨s.toArray⟩ : ByteArray).data.toList = s := sP;have hsz : (⟨s.toArray⟩ : ByteArray).size = s.length := by simp [ByteArray.size]
  cases ha : Lib.atoiAll s with
  | ok v =>
   have hv : atoiV s = (v, .nilIface) := by unfold atoiV; rw [ha]
   rw [hv];obtain ⟨b0, b1⟩ := Lib.atoiAll_bounds ha;refine (Any.strconv_Atoi_ok Tryz.laysC172 ⟨s.toArray⟩ oM v (by rw [e]; exact ha) w).mono ?_;rintro e w' ⟨rfl, hw⟩;refine ⟨_, rfl, ?_, fun β H => vrep_two (.int _ _ (i64b b0 b1)) .nilIface⟩;rcases hw with rfl | ⟨t, rfl⟩
   ·exact Below.refl _ _
   ·exact Lib.bytesWorld_below _ _ _
  | range =>
   have hv : atoiV s = (Lib.atoiSat s, .iface 364 .opq) := by unfold atoiV; rw [ha]
   rw [hv];obtain ⟨ev, g1, g2⟩ := errCell hg 4 rfl;obtain ⟨b0, b1⟩ := Lib.atoiSat_bounds s;refine (Any.strconv_Atoi_range Tryz.laysC172 ⟨s.toArray⟩ oM (by rw [e]; exact ha) ev w g1 g2).mono ?_;rintro e' w' ⟨N, rfl, h1, h2, hb⟩;rw [e];exact ⟨_, rfl, hb, fun β H => vrep_two (.int _ _ (i64b b0 b1)) (.iface _ _ _ (.opq _ rfl))⟩
  | _ =>
   have hv : atoiV s = (0, .iface 364 .opq) := by unfold atoiV; rw [ha]
   rw [hv];obtain ⟨ev, g1, g2⟩ := errCell hg 3 rfl;refine (Any.strconv_Atoi_syntax Tryz.laysC172 ⟨s.toArray⟩ oM (by rw [e]; exact ha) ev w g1 g2).mono ?_;rintro e w' ⟨N, rfl, h1, h2, hb⟩;exact ⟨_, rfl, hb, fun β H => vrep_two (.int _ _ (i64b oM oM)) (.iface _ _ _ (.opq _ rfl))⟩
theorem atoiV_bd (s : Str) : -9223372036854775808 ≤ (atoiV s).1 ∧ (atoiV s).1 ≤ 9223372036854775807 := by
 unfold atoiV;cases ha : Lib.atoiAll s with
 | ok v => exact Lib.atoiAll_bounds ha
 | range => exact Lib.atoiSat_bounds s
 | _ => exact ⟨by show (-9223372036854775808 : Int) ≤ 0; omega, by show (0 : Int) ≤ 9223372036854775807; omega⟩
theorem atoiV_err (s : Str) : (atoiV s).2 = .nilIface ∨ (atoiV s).2 = .iface 364 .opq := by
 unfold atoiV;cases ha : Lib.atoiAll s with
 | ok v => exact .inl rfl
 | range => exact .inr rfl
 | _ => exact .inr rfl
theorem tabI (hg : ∀ g cs, globOf g = some cs → GRep A w g cs) : Lib.TabIs Tryz.prog w "internal/strconv.uint64pow10" .u64 Lib.pow10Tab := by
 obtain ⟨h0, C, T, fr, h1, h2, h3, h4⟩ := hg 5 tab3 rfl;have hn : Tryz.prog.globalNamed "internal/strconv.uint64pow10" = some 5 := kR;unfold Lib.TabIs World.var?;rw [hn];simp only [Option.bind_some, h1, Option.some.injEq];have hlen : tab3.length = 20 := by simp [tab3]
 apply Array.ext
 ·rw [← h2, hlen]; simp [Lib.pow10Tab]
 ·intro i hi hi';have hi20 : i < 20 := by rw [← h2, hlen] at hi; exact hi
  have e1 : tab3[i]? = some (.int .u64 ((10 ^ i : Nat) : Int)) := by simp [tab3, hi20]
  have := h4 i _ C[i] e1 sP;generalize C[i] = v at this;cases this;simp [Lib.pow10Tab]
theorem call100 (n : Int) (h0 : -9223372036854775808 ≤ n) (h1 : n ≤ 9223372036854775807) : CT 100 [.d (.int .i64 n)] [] (.d (.str (Lib.itoa n))) [] := by
 refine CallOK.of_callsG (ds := [.int .i64 n]) (hasT Tryz.func100 kR kR) ?_;intro A w vs hg hl hv;obtain ⟨x, rfl⟩ := one_arg hl;have hx := hv 0 _ x rfl rfl;cases hx with
 | int =>
  refine (Any.strconv_Itoa Tryz.laysM171 n h0 h1 w (tabI hg)).mono ?_;rintro e w' ⟨rfl, k, os, rfl⟩;refine ⟨_, rfl, ?_, fun β H => .d _ _ (.str _ ?_)⟩
  ·refine ⟨rfl, rfl, rfl, by simp [Sort.grow], fun i hi => ?_⟩;show ((w.drewN k).heap ++ os)[i]? = _;rw [Array.getElem?_append_left (by show i < w.heap.size; omega)];rfl
  ·have := Lib.itoa_length_le n h0 h1;omega
end Go.Proofs
namespace Go.Proofs
open Go Av
theorem Con.rl {P : Program} {f : Nat} {ds cs : List Dat} {r : Dat} (h : Con P f (ds.map .d ++ [.ref 1000 0]) [(1000, .box (cs.map .d))] (.d r) []) (i : Nat) :
  CallOK P f (ds.map .d ++ [.ref i 0]) [(i, some (.box (cs.map .d)))] (.d r) [] := by
 have h1 : ∀ j, (get [(1000, Obj.box (cs.map .d))] j).isSome = true → j = 1000 := by
  intro j hj;simp only [Av.get] at hj;split at hj
  ·rename_i e; exact e.symm
  ·cases hj
 have := h.call (fun _ => i) (fun j hj => by rw [h1 j hj]; decide) (fun a b ha hb _ => by rw [h1 a ha, h1 b hb]) ?_ (closed_box _ _) [] sP (closed_box _ _) trivial
 ·have e : (ds.map Av.d).map (Av.ren fun _ => i) = ds.map Av.d := by
   rw [List.map_map]; exact List.map_congr_left fun x _ => by simp [Av.ren]
  simpa [Av.ren, Obj.ren, renL_d, e] using this
 ·intro c hc;rcases List.mem_append.1 hc with hc | hc
  ·obtain ⟨x, _, rfl⟩ := List.mem_map.1 hc; trivial
  ·rw [List.mem_singleton.1 hc]; rfl
noncomputable def endI (s : Str) : Int := if anyI (s.drop 1) < 0 then s.length else 1 + anyI (s.drop 1)
theorem endI_bd (s : Str) (h : 0 < s.length) : 1 ≤ endI s ∧ endI s ≤ s.length := by
 have := anyI_bd (s.drop 1);rw [List.length_drop] at this;unfold endI;split <;> omega
theorem sls_from (s : Str) (k : Nat) : (s.drop k).take ((s.length : Int) - k).toNat = s.drop k := by
 apply List.take_of_length_le;rw [List.length_drop]; omega
theorem sls_fromI (s : Str) (n : Int) (h : 0 ≤ n) : (s.drop n.toNat).take ((s.length : Int) - n).toNat = s.drop n.toNat := by
 have := sls_from s n.toNat;rwa [Int.toNat_of_nonneg h] at this
theorem walk146 (s : Str) (hs : s.length ≤ 68719476736) (h0 : 0 < s.length) : KT 146 ([Dat.int .i64 1].map .d ++ [.ref 1000 0]) [(1000, .box ([Dat.str s].map .d))] (.d (.int .i64 (endI s))) [] := by
 refine ok146.co (k := false) (closed_box _ _) trivial ?_;have t1 : Int.toNat 1 = 1 := rfl;have e1 : (s.drop 1).take ((s.length : Int) - 1).toNat = s.drop 1 := sls_from s 1;have hd : (s.drop 1).length ≤ 68719476736 := by rw [List.length_drop]; omega
 have hb := anyI_bd (s.drop 1);rw [List.length_drop] at hb;simp only [List.map_cons, List.map_nil, List.cons_append, List.nil_append];simp only [go_sem, ir146, t1, e1, simprocAttr];refine ⟨oM, wn ((walk147 (s.drop 1) hd).call trivial) ?_⟩;refine zz ?_;apply ik <;> intro h
 ·simp only [decide_eq_true_eq] at h;have : endI s = s.length := by unfold endI; rw [if_pos h]
  rw [this]
 ·simp only [decide_eq_false_iff_not] at h;have : endI s = 1 + anyI (s.drop 1) := by unfold endI; rw [if_neg h]
  rw [this];have hw : IntKind.i64.wrap (1 + anyI (s.drop 1)) = 1 + anyI (s.drop 1) := wrap64 oM oM;rw [hw]
noncomputable def takeS (s : Str) : Part × Str × Bool :=
 if preS s [91, 42, 93] then (⟨3, 0, []⟩, s.drop 3, true)
 else if s.getD 0 0 = 46 then (⟨1, 0, (s.drop 1).take ((endI s) - 1).toNat⟩, s.drop (endI s).toNat, true)
 else if s.getD 0 0 = 63 then (⟨4, 0, (s.drop 1).take ((endI s) - 1).toNat⟩, s.drop (endI s).toNat, true)
 else (⟨2, (atoiV (cutS (s.drop 1) 93).1).1, []⟩, (cutS (s.drop 1) 93).2.1,
  ((((s.getD 0 0).toNat : Int) == 91) && (cutS (s.drop 1) 93).2.2) && ((isNilI (.d (atoiV (cutS (s.drop 1) 93).1).2)).getD false) && (Lib.itoa (atoiV (cutS (s.drop 1) 93).1).1 == (cutS (s.drop 1) 93).1))
theorem cutS_len (s : Str) (c : UInt8) : (cutS s c).1.length ≤ s.length ∧ (cutS s c).2.1.length ≤ s.length := by
 unfold cutS;split
 ·simp only [List.length_take, List.length_drop]; omega
 ·simp
theorem takeS_lt (s : Str) (h0 : 0 < s.length) : (takeS s).2.1.length < s.length ∧ (takeS s).1.name.length ≤ s.length := by
 have he := endI_bd s h0;unfold takeS;split
 ·simp only [List.length_drop, List.length_nil]; omega
 split
 ·simp only [List.length_drop, List.length_take]; omega
 split
 ·simp only [List.length_drop, List.length_take]; omega
 ·have := cutS_len (s.drop 1) 93;rw [List.length_drop] at this;simp only [List.length_nil]; omega
theorem walk73 (s : Str) (hs : s.length ≤ 68719476736) (h0 : 0 < s.length) : PT 73 [.str s] (.tup [.d (encP (takeS s).1), .d (.str (takeS s).2.1), .d (.bool (takeS s).2.2)]) := by
 refine ok73.pc ?_;have he := endI_bd s h0;have t1 : Int.toNat 1 = 1 := rfl;have t3 : Int.toNat 3 = 3 := rfl;simp only [go_sem, ir73, simprocAttr];refine wc (Con.rl (walk146 s hs h0) 1) ?_;refine wc ((walk148 s [91, 42, 93] dC).call trivial) ?_;apply ik <;> intro hp
 ·have hv : takeS s = (⟨3, 0, []⟩, s.drop 3, true) := by unfold takeS; rw [if_pos hp]
  have hl : 3 ≤ s.length := by
   unfold preS at hp;simp only [Bool.and_eq_true, decide_eq_true_eq] at hp;have := hp.1;simp only [List.length_cons, List.length_nil] at this;omega
  rw [hv];have q := sls_from s 3;refine ⟨oM, dC, ?_⟩;rw [show ((s.length : Int) - 3).toNat = ((s.length : Int) - (3 : Nat)).toNat from rfl, t3, q];rfl
 ·have q2 := sls_fromI s (endI s) oM;have q3 := sls_from s 1;refine ⟨oM, fun h46 => ?_, fun h46 => ⟨oM, fun h63 => ?_, fun h63 => ⟨oM, ?_⟩⟩⟩
  ·have hc : s.getD 0 0 = 46 := by
    simp only [t0', beq_iff_eq] at h46;have : (s.getD 0 0).toNat = (46 : UInt8).toNat := by exact_mod_cast h46
    exact UInt8.toNat_inj.1 this
   have hv : takeS s = (⟨1, 0, (s.drop 1).take ((endI s) - 1).toNat⟩, s.drop (endI s).toNat, true) := by unfold takeS; rw [if_neg (by simp [hp]), if_pos hc]
   refine ⟨oM, oM, dC, ?_⟩;rw [q2, hv, t1];rfl
  ·have hn46 : ¬ s.getD 0 0 = 46 := by
    intro e;simp only [t0', e] at h46;cases h46
   have hc : s.getD 0 0 = 63 := by
    simp only [t0', beq_iff_eq] at h63;have : (s.getD 0 0).toNat = (63 : UInt8).toNat := by exact_mod_cast h63
    exact UInt8.toNat_inj.1 this
   have hv : takeS s = (⟨4, 0, (s.drop 1).take ((endI s) - 1).toNat⟩, s.drop (endI s).toNat, true) := by unfold takeS; rw [if_neg (by simp [hp]), if_neg hn46, if_pos hc]
   refine ⟨oM, oM, dC, ?_⟩;rw [q2, hv, t1];rfl
  ·have hn46 : ¬ s.getD 0 0 = 46 := by
    intro e;simp only [t0', e] at h46;cases h46
   have hn63 : ¬ s.getD 0 0 = 63 := by
    intro e;simp only [t0', e] at h63;cases h63
   have hv : takeS s = (⟨2, (atoiV (cutS (s.drop 1) 93).1).1, []⟩, (cutS (s.drop 1) 93).2.1,
     ((((s.getD 0 0).toNat : Int) == 91) && (cutS (s.drop 1) 93).2.2) && ((isNilI (.d (atoiV (cutS (s.drop 1) 93).1).2)).getD false) && (Lib.itoa (atoiV (cutS (s.drop 1) 93).1).1 == (cutS (s.drop 1) 93).1)) := by
    unfold takeS; rw [if_neg (by simp [hp]), if_neg hn46, if_neg hn63]
   rw [hv, t1, show ((s.length : Int) - 1).toNat = ((s.length : Int) - (1 : Nat)).toNat from rfl, q3];have hd : (s.drop 1).length ≤ 68719476736 := by rw [List.length_drop]; omega
   refine wn ((walk149 (s.drop 1) 93 hd).call (by simp [pureR])) ?_;have hcl := cutS_len (s.drop 1) 93;generalize hcut : cutS (s.drop 1) 93 = cu at *;obtain ⟨num, rest, closed⟩ := cu;refine zz ?_;have hnl : num.length ≤ 68719476736 := by simp only at hcl; omega
   have hab := atoiV_bd num;have hae := atoiV_err num;refine wn (call150 num hnl) ?_;generalize hat : atoiV num = av at *;obtain ⟨iv, er⟩ := av;simp only at hab hae;simp only [go_sem, t0', simprocAttr];refine ⟨oM, scQ_pure closed (fun _ => ?_) ?_⟩
   ·exact zz trivial
   refine zz ?_;rcases hae with rfl | rfl
   ·refine scQ_pure true (fun _ => ?_) ?_
    ·simp only [go_sem, isNilI, simprocAttr]
    refine zz ?_;refine sq (Lib.itoa iv == num) ?_ ?_
    ·refine zz ?_;refine wc (call100 iv hab.1 hab.2) trivial
    refine zz70 ?_;rfl
   ·refine scQ_pure false (fun _ => ?_) ?_
    ·simp only [go_sem, isNilI, simprocAttr]
    refine zz ?_;refine sq (Lib.itoa iv == num) ?_ ?_
    ·refine zz ?_;refine wc (call100 iv hab.1 hab.2) trivial
    refine zz70 ?_;rfl
noncomputable def parseL : Nat → Str → Option (List Part)
 | 0, _ => some []
 | f + 1, r => if r == [] then some [] else if !(takeS r).2.2 || !(validP (takeS r).1) then none else match parseL f (takeS r).2.1 with
  | some ps => some ((takeS r).1 :: ps)
  | none => none
noncomputable def parseS (s : Str) : List Part × Int :=
 if s == [] then ([], 4) else if (s.length : Int) > 200 then ([], 5) else match parseL (s.length + 2) (46 :: s) with
  | some ps => if (ps.length : Int) > 16 then ([], 9) else (ps, 0)
  | none => ([], 13)
theorem canonL_parts (l : List Part) : canonL (l.map encP) = l.map encP := by
 rw [canonL_map, List.map_map];exact List.map_congr_left fun p _ => by simp [encP, Dat.canon, canonL]
attribute [go_sem] canonL_parts
theorem walk26 (s : Str) (hs : s.length ≤ 68719476736) : PT 26 [.str s] (.tup [.d (.list 3 ((parseS s).1.map encP)), .d (.int .i64 (parseS s).2)]) := by
 refine ok26.pc ?_;simp only [go_sem, ir26, simprocAttr];refine ⟨fun h0 => ?_, fun h0 => ⟨fun h200 => ?_, fun h200 => ?_⟩⟩
 ·have : parseS s = ([], 4) := by unfold parseS; rw [if_pos h0]
  rw [this]; rfl
 ·have : parseS s = ([], 5) := by
   unfold parseS; rw [if_neg (by simp [h0])];simp only [decide_eq_true_eq] at h200;rw [if_pos h200]
  rw [this]; rfl
 have hR : parseS s = match parseL (s.length + 2) (46 :: s) with
  | some ps => if (ps.length : Int) > 16 then ([], 9) else (ps, 0)
  | none => ([], 13) := by
   unfold parseS; rw [if_neg (by simp [h0])];simp only [decide_eq_false_iff_not] at h200;rw [if_neg h200]
 generalize hr0 : parseL (s.length + 2) (46 :: s) = R at hR;simp only [decide_eq_false_iff_not] at h200;refine ⟨by first | omega | (simp; omega), ?_⟩;refine wpc_loop (fun n st => ∃ (ps : List Part) (rest : Str), rest.length < n ∧ ps.length + rest.length ≤ 201 ∧ rest.length ≤ 68719476736 ∧ R = (parseL n rest).map (ps ++ ·) ∧
  st = ⟨[(4, .ms 36 ps.length), (5, .d (.str rest))], [(36, .row ps.length 3 (ps.map encP))]⟩) ?_ ?_
 ·refine ⟨s.length + 2, _, Wk.nilT 4 36 3 rfl rfl dC, [], 46 :: s, sP, sO, sO, ?_, rfl⟩;rw [hr0]; cases R <;> simp
 ·rintro n st ⟨ps, rest, hn, hb, hl, hinv, rfl⟩;by_cases he : rest = []
  ·subst he;obtain ⟨n, rfl⟩ : ∃ m, n = m + 1 := by cases n with | zero => simp at hn | succ m => exact ⟨m, rfl⟩
   have e1 : (([] : Str) == []) = true := rfl;have hRp : R = some ps := by rw [hinv]; simp [parseL]
   subst hRp;simp only at hR;simp only [go_sem, e1, Bool.not_true, List.length_map, simprocAttr];apply ik <;> intro h16
   ·have h16 : (ps.length : Int) > 16 := sX h16;rw [if_pos h16] at hR;rw [hR]; rfl
   ·have h16 : ¬ (ps.length : Int) > 16 := sX h16;rw [if_neg h16] at hR;rw [hR]
  ·have h0r : 0 < rest.length := List.length_pos_iff.2 he;have e2 : (rest == []) = false := sX he;obtain ⟨n, rfl⟩ : ∃ m, n = m + 1 := by cases n with | zero => omega | succ m => exact ⟨m, rfl⟩
   have hlt := takeS_lt rest h0r;simp only [parseL, e2] at hinv;simp only [go_sem, e2, Bool.not_false, simprocAttr];refine wn ((walk73 rest hl h0r).call (by simp [pureR])) ?_;generalize htk : takeS rest = tk at *;obtain ⟨⟨pk, pi, pn⟩, nx, is⟩ := tk;simp only at hlt hinv;simp only [go_sem, encP, simprocAttr];have hv := walk74 ⟨pk, pi, pn⟩ (by simp only; omega);refine sq (!validP ⟨pk, pi, pn⟩) ?_ ?_
   ·refine zz ?_;refine wc (hv.call trivial) trivial
   refine zz ?_;apply ik <;> intro hf
   ·rw [hf] at hinv;simp only [↓reduceIte, Option.map_none] at hinv;subst hinv;rw [hR]; rfl
   ·rw [hf] at hinv;refine ⟨sP, sO, n, _, oM, Wk.less ?_, ps ++ [⟨pk, pi, pn⟩], nx, oM, sO, oM, ?_, rfl⟩
    ·simp only [go_sem, encP, List.length_append, List.length_singleton, List.map_append, List.map_cons, List.map_nil, simprocAttr]
    ·rw [hinv];cases parseL n nx <;> simp
theorem nth_encP {xs : List Part} {k : Nat} (h : k < xs.length) : nth (xs.map encP) k = .agg [.int .i64 xs[k].kind, .int .i64 xs[k].index, .str xs[k].name] := by
 rw [nth_eq (sX h), List.getElem_map, encP]
theorem step54 (a : Val) (ha : a.list.length ≤ 68719476736) (ha2 : a.fields.length ≤ 68719476736) (h1 : ∀ x ∈ a.list, CT 54 [.d (encV x)] [] (.d (encV x)) []) (h2 : ∀ x ∈ a.fields, CT 54 [.d (encV x.value)] [] (.d (encV x.value)) []) :
  PT 54 [encV a] (.d (encV a)) := by
 refine ok54.pc ?_;rw [encV_eq];simp only [go_sem, ir54, simprocAttr];refine wpc_loop (fun n s => ∃ k : Nat, k ≤ a.list.length ∧ n = a.list.length - k ∧
  s = ⟨[(1, .ref 1 0), (2, .ref 2 0), (3, .ref 3 0), (12, .d (.list 6 (a.list.map encV))), (13, .d (.int .i64 a.list.length)), (14, .d (.int .i64 k))],
   [(1, .box [.d (.int .i64 a.kind), .d (.int .i64 a.int), .d (.int .i64 a.scale), .d (.str a.text), .d (.list 6 (a.list.map encV)), .d (.list 7 (a.fields.map encF))]),
    (2, .box [.d (.int .i64 0), .d (.int .i64 0), .d (.int .i64 0), .d (.str []), .d (.nil 6), .d (.nil 7)]),
    (3, .box [.d (.int .i64 a.kind), .d (.int .i64 a.int), .d (.int .i64 a.scale), .d (.str a.text), .ms 23 k, .d (.nil 7)]),
    (23, .row k 6 ((a.list.take k).map encV))]⟩) ?_ ?_
 ·refine ⟨_, _, Wk.nilB 3 4 23 6 _ rfl rfl rfl dC, 0, Nat.zero_le _, rfl, ?_⟩;simp [put]
 ·rintro n s ⟨k, hk, rfl, rfl⟩;by_cases hlt : k < a.list.length
  ·have hx := nth_encV hlt;have hd := dT hlt;refine zz33 ?_;have hc := h1 a.list[k] (List.getElem_mem _);rw [encV_eq] at hc;refine ⟨sO, wpsL_call rfl hc trivial ?_⟩;refine zz ?_;refine ⟨sP, sO, rfl, a.list.length - (k + 1), _, oM, Wk.less ?_, k + 1, oM, rfl, rfl⟩;rw [List.take_succ_eq_append_getElem hlt, List.map_append];simp only [go_sem, wrap64s k oM, List.map_cons, List.map_nil, encV_eq a.list[k], Nat.reduceAdd, Nat.reduceEqDiff, Nat.reduceBEq, Nat.reduceLeDiff, reduceCtorEq, ↓reduceIte]
  ·have hd := dF hlt;obtain rfl : k = a.list.length := oM;refine zz28 ?_;refine wpc_loop (fun n s => ∃ k : Nat, k ≤ a.fields.length ∧ n = a.fields.length - k ∧
    s = ⟨[(2, .ref 2 0), (3, .ref 3 0), (27, .d (.list 7 (a.fields.map encF))), (28, .d (.int .i64 a.fields.length)), (29, .d (.int .i64 k))],
     [(2, .box [.d (.int .i64 0), .d (.int .i64 0), .d (.int .i64 0), .d (.str []), .d (.nil 6), .d (.nil 7)]),
      (3, .box [.d (.int .i64 a.kind), .d (.int .i64 a.int), .d (.int .i64 a.scale), .d (.str a.text), .ms 23 a.list.length, .ms 42 k]),
      (23, .row a.list.length 6 (a.list.map encV)),
      (42, .row k 7 ((a.fields.take k).map encF))]⟩) ?_ ?_
   ·refine ⟨_, _, (Wk.nilB 3 5 42 7 _ rfl rfl rfl dC).trans (Wk.less ?_), 0, Nat.zero_le _, rfl, rfl⟩;simp [put, go_sem]
   ·rintro n s ⟨k, hk, rfl, rfl⟩;by_cases hlt : k < a.fields.length
    ·have hx := nth_encF hlt;have hd := dT hlt;have hc := h2 a.fields[k] (List.getElem_mem _);rw [encV_eq] at hc;refine zz33 ?_;refine ⟨sO, wpsL_call rfl hc trivial ?_⟩;refine zz ?_;refine ⟨sP, sO, rfl, a.fields.length - (k + 1), _, oM, Wk.less ?_, k + 1, oM, rfl, rfl⟩;rw [List.take_succ_eq_append_getElem hlt, List.map_append];simp only [go_sem, wrap64s k oM, List.map_cons, List.map_nil, encF_eq a.fields[k], Nat.reduceAdd, Nat.reduceEqDiff, Nat.reduceBEq, Nat.reduceLeDiff, reduceCtorEq, ↓reduceIte]
    ·have hd := dF hlt;obtain rfl : k = a.fields.length := oM;exact zz28 trivial
mutual
theorem walk54 : ∀ (a : Val), okV a → PT 54 [encV a] (.d (encV a))
 | .mk k i s t l f, ha => by
  simp only [okV] at ha;obtain ⟨a1, a2, a3, a4⟩ := ha;exact step54 _ a1 a2 (fun x hx => (walk54s l a3 x hx).call trivial) (fun x hx => (walk54f f a4 x hx).call trivial)
theorem walk54s : ∀ (l : List Val), okVs l → ∀ x ∈ l, PT 54 [encV x] (.d (encV x))
 | [], _, x, h => by cases h
 | v :: r, ho, x, h => by
  simp only [okVs] at ho;by_cases e : x = v
  ·rw [e]; exact walk54 v ho.1
  ·exact walk54s r ho.2 x ((List.mem_cons.1 h).resolve_left e)
theorem walk54f : ∀ (l : List Fld), okFs l → ∀ x ∈ l, PT 54 [encV x.value] (.d (encV x.value))
 | [], _, x, h => by cases h
 | .mk n v :: r, ho, x, h => by
  simp only [okFs, okF] at ho;by_cases e : x = .mk n v
  ·rw [e]; exact walk54 v ho.1
  ·exact walk54f r ho.2 x ((List.mem_cons.1 h).resolve_left e)
end
end Go.Proofs
namespace Go.Proofs
open Go Av
open Av.Y
def ir78 : Ic := q (R (oz 2 0<|N) [2])<|q (q (R (om 6 0<|oh 7 6<|oi 8 .lss 7 1<|om 9 8<|.sc 9 false (om 10 0<|oh 11 10<|oi 12 .gtr 11 16<|N) (t 12) 13 (om 14 13<|.sc 14 false (om 15 0<|oo 16 (.ixa true 3 (t 15) (i 0))<|of 17 16 0<|ol 18 17<|oi 19 .neq 18 1<|N) (t 19) 20 N)) [6,7,8,9,13,14])<|D (I 20 (q (R (oz 2 3<|N) [0,20])<|.ret) S) [20])<|q (.reg (oz 3 (-1)<|N))<|q (q (R (om 21 0<|oh 22 21<|oz 23 0<|N) [0])<|D (.block 0<|.loop (q (.reg (ot 24 .lss 23 22<|N))<|q (D (I 24 S (E 0)) [24])<|q (D (.block 1<|q (R (oa true 25 3 21 23<|oL 26 3 25<|oN 5 [.int .i64 0,.int .i64 0,.str []]<|oS 3 5 26<|N) [25,26])<|q (q (R (oL 27 3 5<|cl 28 74 [t 27]<|og 29 28<|N) [27,28])<|D (I 29 (q (R (oz 2 3<|N) [3,21,22,23,5,29])<|.ret) S) [29])<|R (om 30 3<|oL 31 3 5<|cl 32 159 [t 31]<|oj 33 32<|ot 34 .add 30 33<|om 3 34<|N) [5,30,31,32,33,34]) [])<|R (oi 35 .add 23 1<|om 23 35<|N) [35])) [21,22,23,24,5])<|q (q (R (om 36 3<|oi 37 .gtr 36 200<|N) [3,36])<|D (I 37 (q (R (oz 2 3<|N) [37])<|.ret) S) [37])<|q (.reg (oz 2 0<|N))<|.ret
theorem ok78 : FT 78 38 ir78 [.tmp 2] := .o Tryz.func78
def ir159 : Ic := q (R (ox 1 0<|ok 2 (.k (.str []))<|N) [0,2])<|q (q (R (of 3 1 0<|ol 4 3<|N) [3])<|D (.block 0<|q (R (oi 6 .eql 4 1<|om 5 6<|N) [6])<|D (I 5 (q (R (of 7 1 2<|ol 8 7<|ob 9 .cat (.k (.str [46])) (t 8)<|om 2 9<|N) [1,4,5,7,8,9])<|.ret) (q (R (oi 11 .eql 4 2<|om 10 11<|N) [5,11])<|D (I 10 (q (R (of 12 1 1<|ol 13 12<|cl 14 100 [t 13]<|ob 15 .cat (.k (.str [91])) (t 14)<|ob 16 .cat (t 15) (.k (.str [93]))<|om 2 16<|N) [1,4,10,12,13,14,15,16])<|.ret) (q (R (oi 18 .eql 4 3<|om 17 18<|N) [4,10,18])<|D (I 17 (q (R (ok 2 (.k (.str [91,42,93]))<|N) [1,17])<|.ret) S) [17])) [])) []) [7,8,9])<|q (R (of 19 1 2<|ol 20 19<|ob 21 .cat (.k (.str [63])) (t 20)<|om 2 21<|N) [1,19,20,21])<|.ret
theorem ok159 : FT 159 22 ir159 [.tmp 2] := .o Tryz.func159
def ir156 : Ic := q (R (ox 2 0<|ox 3 1<|ow 4 false<|N) [0,1,4])<|q (q (R (of 5 2 0<|ol 6 5<|N) [2,5])<|D (.block 0<|q (R (oi 8 .eql 6 1<|om 7 8<|N) [8])<|D (I 7 (q (R (of 9 3 0<|ol 10 9<|oi 11 .eql 10 9<|om 4 11<|N) [3,6,7,9,10,11])<|.ret) (q (R (oi 13 .eql 6 4<|om 12 13<|N) [6,7,13])<|D (I 12 (q (R (of 14 3 0<|ol 15 14<|oi 16 .eql 15 10<|om 17 16<|.sc 17 true (of 18 3 4<|ol 19 18<|oh 20 19<|oi 21 .eql 20 1<|N) (t 21) 22 (om 4 22<|N)) [3,12,14,15,16,17,22])<|.ret) S) [12])) []) [9,10,11])<|q (R (of 23 3 0<|ol 24 23<|oi 25 .eql 24 8<|om 4 25<|N) [3,23,24,25])<|.ret
theorem ok156 : FT 156 26 ir156 [.tmp 4] := .o Tryz.func156
def ir84 : Ic := q (R (ox 2 0<|ox 3 1<|ok 4 (.k (.nil 6))<|N) [0,1,4])<|q (D (.block 0<|q (R (of 7 2 0<|ol 8 7<|oi 9 .eql 8 1<|om 6 9<|N) [7,8,9])<|I 6 (q (R (oL 10 6 3<|of 11 2 2<|ol 12 11<|cl 13 164 [t 10,t 12]<|om 5 13<|N) [2,6,10,11,12,13])<|q (R (om 14 5<|oi 15 .geq 14 0<|N) [14])<|D (I 15 (q (R (of 16 3 5<|ol 17 16<|om 18 5<|oa true 19 7 17 18<|of 20 19 1<|oL 21 6 20<|oo 22 (.bls 6 [t 21])<|om 4 22<|N) [3,5,15,16,17,18,19,20,21,22])<|.ret) S) [3,5,15]) (q (R (of 24 2 0<|ol 25 24<|oi 26 .eql 25 3<|om 27 26<|.sc 27 false (of 28 2 0<|ol 29 28<|oi 30 .eql 29 4<|om 31 30<|.sc 31 true (of 32 3 3<|ol 33 32<|of 34 2 2<|ol 35 34<|ot 36 .seq 33 35<|N) (t 36) 37 N) (t 37) 38 (om 23 38<|N)) [6,24,25,26,27,38])<|D (I 23 (q (R (of 39 3 4<|ol 40 39<|om 4 40<|N) [2,3,23,39,40])<|.ret) (q (R (of 42 2 0<|ol 43 42<|oi 44 .eql 43 2<|om 45 44<|.sc 45 true (of 46 2 1<|ol 47 46<|of 48 3 4<|ol 49 48<|oh 50 49<|ot 51 .lss 47 50<|N) (t 51) 52 (om 41 52<|N)) [23,42,43,44,45,52])<|D (I 41 (q (R (of 53 3 4<|ol 54 53<|of 55 2 1<|ol 56 55<|of 57 2 1<|ol 58 57<|oi 59 .add 58 1<|oo 60 (.slc 6 (t 54) (some (t 56)) (some (t 59)) none)<|om 4 60<|N) [2,3,41,53,54,55,56,57,58,59,60])<|.ret) S) [2,3,41])) [])) [10,11,5])<|q (.reg (ok 4 (.k (.nil 6))<|N))<|.ret
theorem ok84 : FT 84 61 ir84 [.tmp 4] := .o Tryz.func84
def ir164 : Ic := q (R (ox 2 0<|ox 3 1<|oz 4 0<|N) [0,1,4])<|q (R (of 5 2 5<|ol 6 5<|oo 7 (.fnv (.func 239) [] [t 3])<|cl 8 160 [t 6,t 7]<|om 4 8<|N) [2,3,5,6,7,8])<|.ret
theorem ok164 : FT 164 9 ir164 [.tmp 4] := .o Tryz.func164
def ir239 : Ic := q (R (ox 2 0<|ow 3 false<|N) [0,3])<|q (R (of 4 2 0<|ol 5 4<|ol 6 1<|ot 7 .seq 5 6<|om 3 7<|N) [2,4,5,6,7])<|.ret
theorem ok239 : FT 239 8 ir239 [.tmp 3] := .o Tryz.func239
def ir77 : Ic := q (R (ow 2 false<|N) [2])<|q (R (om 3 0<|cl 4 157 [t 3,.k (.fn (.func 158) [] [])]<|om 2 4<|N) [0,3,4])<|.ret
theorem ok77 : FT 77 5 ir77 [.tmp 2] := .o Tryz.func77
def ir158 : Ic := q (R (ox 1 0<|ow 2 false<|N) [0,2])<|q (R (of 3 1 0<|ol 4 3<|oi 5 .eql 4 3<|om 2 5<|N) [1,3,4,5])<|.ret
theorem ok158 : FT 158 6 ir158 [.tmp 2] := .o Tryz.func158
def ir76 : Ic := q (R (ox 2 0<|ok 4 (.k (.nil 6))<|oz 5 0<|N) [0,4,5])<|q (q (R (om 16 1<|cl 17 78 [t 16]<|om 6 17<|N) [16,17])<|q (R (om 18 6<|oi 19 .neq 18 0<|N) [18])<|D (I 19 (q (R (om 20 6<|ok 4 (.k (.nil 6))<|om 5 20<|N) [1,2,6,19,20])<|.ret) S) [6,19])<|q (R (oL 21 6 2<|oo 22 (.bls 6 [t 21])<|om 7 22<|N) [2,21,22])<|q (q (.reg (om 23 1<|oh 24 23<|oz 25 0<|N))<|D (.block 0<|.loop (q (.reg (ot 26 .lss 25 24<|N))<|q (D (I 26 S (E 0)) [26])<|q (D (.block 1<|q (R (oa true 27 3 23 25<|oL 28 3 27<|oN 9 [.int .i64 0,.int .i64 0,.str []]<|oS 3 9 28<|N) [27,28])<|q (.reg (ok 10 (.k (.nil 6))<|N))<|q (q (R (om 29 7<|oh 30 29<|oz 31 0<|N) [7])<|D (.block 2<|.loop (q (.reg (ot 32 .lss 31 30<|N))<|q (D (I 32 S (E 2)) [32])<|q (D (.block 3<|q (R (oa true 33 6 29 31<|oL 34 6 33<|oN 12 v6<|oS 6 12 34<|N) [33,34])<|q (q (R (oL 35 3 9<|oL 36 6 12<|cl 37 156 [t 35,t 36]<|og 38 37<|N) [35,36,37])<|D (I 38 (q (R (ok 4 (.k (.nil 6))<|oz 5 22<|N) [1,23,24,25,9,10,29,30,31,12,38])<|.ret) S) [38])<|R (om 39 10<|oL 40 3 9<|oL 41 6 12<|cl 42 84 [t 40,t 41]<|oo 43 (.app 6 (t 39) (t 42))<|om 10 43<|N) [12,39,40,41,42,43]) [])<|R (oi 44 .add 31 1<|om 31 44<|N) [44])) [9,29,30,31,32])<|R (om 45 10<|om 7 45<|N) [10,45]) [])<|R (oi 46 .add 25 1<|om 25 46<|N) [46])) [23,24,25,26,9,10])<|q (q (R (om 47 7<|oh 48 47<|oi 49 .eql 48 0<|om 50 49<|.sc 50 true (om 51 1<|cl 52 77 [t 51]<|og 53 52<|N) (t 53) 54 N) [1,47,48,49,50])<|D (I 54 (q (R (ok 4 (.k (.nil 6))<|oz 5 19<|N) [7,54])<|.ret) S) [54])<|q (.reg (ok 13 (.k (.nil 6))<|N))<|q (q (R (om 55 7<|oh 56 55<|oz 57 0<|N) [7])<|D (.block 4<|.loop (q (.reg (ot 58 .lss 57 56<|N))<|q (D (I 58 S (E 4)) [58])<|q (D (.block 5<|q (R (oa true 59 6 55 57<|oL 60 6 59<|oN 15 v6<|oS 6 15 60<|N) [59,60])<|R (om 61 13<|oL 62 6 15<|cl 63 54 [t 62]<|oo 64 (.bls 6 [t 63])<|oo 65 (.app 6 (t 61) (t 64))<|om 13 65<|N) [15,61,62,63,64,65]) [])<|R (oi 66 .add 57 1<|om 57 66<|N) [66])) [55,56,57,58])<|q (R (om 67 13<|om 4 67<|oz 5 0<|N) [13,67])<|.ret
theorem ok76 : FT 76 68 ir76 [.tmp 4, .tmp 5] := .o Tryz.func76
def ir28 : Ic := q (R (ox 2 0<|oN 4 v6<|oz 5 0<|N) [0,5])<|q (R (oL 9 6 2<|om 10 1<|cl 11 76 [t 9,t 10]<|om 8 11<|oe 12 8 0<|oe 13 8 1<|om 6 12<|om 7 13<|N) [2,9,10,11,8,12,13])<|q (D (.block 0<|q (R (om 15 7<|oi 16 .neq 15 0<|om 14 16<|N) [15,16])<|D (I 14 (q (R (oo 17 (.bld v6 [])<|om 18 7<|oS 6 4 17<|om 5 18<|N) [1,6,7,14,17,18])<|.ret) (q (R (om 20 1<|cl 21 77 [t 20]<|om 19 21<|N) [1,7,14,20,21])<|D (I 19 (q (R (om 22 6<|oo 23 (.bld v6 [(0,1,i 8),(4,1,t 22)])<|oS 6 4 23<|oz 5 0<|N) [6,19,22,23])<|.ret) S) [19])) []) [])<|q (R (om 24 6<|oo 25 (.ixa true 6 (t 24) (i 0))<|oL 26 6 25<|oS 6 4 26<|oz 5 0<|N) [6,24,25,26])<|.ret
theorem ok28 : FT 28 27 ir28 [.cell 4 (some 6), .tmp 5] := .o Tryz.func28
def ir264 : Ic := q (R (oN 2 [.int .i64 0,.int .i64 0]<|oz 3 0<|N) [3])<|q (q (R (om 8 0<|oh 9 8<|oi 10 .gtr 9 256<|N) [8,9])<|D (I 10 (q (R (oo 11 (.bld [.int .i64 0,.int .i64 0] [])<|oS 2 2 11<|oz 3 9<|N) [0,10,11])<|.ret) S) [10])<|q (q (R (om 12 0<|cl 13 327 [t 12]<|om 4 13<|N) [12,13])<|q (R (om 14 4<|oi 15 .neq 14 0<|N) [14])<|D (I 15 (q (R (oo 16 (.bld [.int .i64 0,.int .i64 0] [])<|om 17 4<|oS 2 2 16<|om 3 17<|N) [0,4,15,16,17])<|.ret) S) [4,15])<|q (.reg (oz 5 0<|N))<|q (q (.reg (om 18 0<|oh 19 18<|oz 20 0<|N))<|D (.block 0<|.loop (q (.reg (ot 21 .lss 20 19<|N))<|q (D (I 21 S (E 0)) [21])<|q (D (.block 1<|q (R (oa true 22 2 18 20<|oL 23 2 22<|oN 7 [.int .i64 0,.int .i64 0]<|oS 2 7 23<|N) [22,23])<|R (om 24 5<|of 25 7 1<|ol 26 25<|oo 27 (.mx (t 24) (t 26))<|om 5 27<|N) [7,24,25,26,27]) [])<|R (oi 28 .add 20 1<|om 20 28<|N) [28])) [18,19,20,21,7])<|q (R (om 29 0<|om 30 5<|cl 31 329 [t 29,t 30]<|oe 32 31 0<|oe 33 31 1<|oS 2 2 32<|om 3 33<|N) [0,5,29,30,31,32,33])<|.ret
theorem ok264 : FT 264 34 ir264 [.cell 2 (some 2), .tmp 3] := .o Tryz.func264
def ir191 : Ic := q (R (ox 3 1<|oN 4 v6<|N) [1])<|q (R (of 17 3 2<|ol 18 17<|cl 19 26 [t 18]<|om 16 19<|oe 20 16 0<|oe 21 16 1<|om 5 20<|om 6 21<|N) [17,18,19,16,20,21,6])<|q (R (om 23 0<|oc 24 23<|of 25 24 0<|oL 26 6 25<|om 27 5<|cl 28 76 [t 26,t 27]<|om 22 28<|oe 29 22 0<|oe 30 22 1<|om 7 29<|om 8 30<|N) [5,23,24,25,26,27,28,22,29,30])<|q (q (R (om 31 8<|oi 32 .neq 31 0<|N) [31])<|D (I 32 (q (R (om 33 0<|om 34 8<|cl 35 190 [t 33,t 34]<|oS 6 4 35<|N) [0,3,7,8,32,33,34,35])<|.ret) S) [8,32])<|q (R (oo 36 (.bls 2 [])<|om 9 36<|N) [36])<|q (q (R (om 37 7<|oh 38 37<|oz 39 0<|N) [7])<|D (.block 0<|.loop (q (.reg (ot 40 .lss 39 38<|N))<|q (D (I 40 S (E 0)) [40])<|q (D (.block 1<|q (R (oa true 41 6 37 39<|oL 42 6 41<|oN 11 v6<|oS 6 11 42<|N) [41,42])<|q (q (D (.regd [(15,18)] (of 43 3 1<|ol 44 43<|oi 45 .eql 44 0<|om 46 45<|.sc 46 true (of 47 11 0<|ol 48 47<|oi 49 .neq 48 2<|N) (t 49) 50 (om 51 50<|.sc 51 false (oL 52 6 11<|cl 53 261 [t 52]<|og 54 53<|N) (t 54) 55 (om 56 55<|.sc 56 false (oL 57 6 11<|cl 58 263 [t 57]<|oo 59 (.fld none (t 58) 1)<|of 60 3 1<|ol 61 60<|ot 62 .gtr 59 61<|N) (t 62) 63 N)))) [43,44,45,46,50,51,55,56])<|D (I 63 (q (R (om 64 0<|cl 65 190 [t 64,i 18]<|oS 6 4 65<|N) [0,3,9,37,38,39,11,63,64,65])<|.ret) S) [63])<|R (om 66 9<|oL 67 6 11<|cl 68 263 [t 67]<|oo 69 (.bls 2 [t 68])<|oo 70 (.app 2 (t 66) (t 69))<|om 9 70<|N) [11,66,67,68,69,70]) [])<|R (oi 71 .add 39 1<|om 39 71<|N) [71])) [37,38,39,40,11])<|q (q (R (om 72 9<|oh 73 72<|oi 74 .gtr 73 256<|N) [72,73])<|D (I 74 (q (R (om 75 0<|cl 76 190 [t 75,i 9]<|oS 6 4 76<|N) [0,3,9,74,75,76])<|.ret) S) [74])<|q (q (R (of 77 3 1<|ol 78 77<|oi 79 .eql 78 0<|N) [77,78])<|D (I 79 (q (R (om 81 9<|cl 82 264 [t 81]<|om 80 82<|oe 83 80 0<|oe 84 80 1<|oN 12 [.int .i64 0,.int .i64 0]<|oS 2 12 83<|om 13 84<|N) [3,9,79,81,82,80,83,84])<|q (R (om 85 0<|oL 86 2 12<|om 87 13<|cl 88 265 [t 85,B true,t 86,t 87]<|oS 6 4 88<|N) [0,12,13,85,86,87,88])<|.ret) S) [79])<|q (R (of 89 3 1<|ol 90 89<|oo 91 (.bld [.int .i64 0,.int .i64 0] [(1,1,t 90)])<|oN 14 [.int .i64 0,.int .i64 0]<|oS 2 14 91<|N) [3,89,90,91])<|q (R (om 93 9<|cl 94 264 [t 93]<|om 92 94<|oe 95 92 0<|oe 96 92 1<|oN 15 [.int .i64 0,.int .i64 0]<|oS 2 15 95<|om 8 96<|N) [9,93,94,92,95,96])<|q (q (R (om 97 8<|oi 98 .neq 97 0<|N) [97])<|D (I 98 (q (R (om 99 0<|om 100 8<|cl 101 190 [t 99,t 100]<|oS 6 4 101<|N) [0,14,15,8,98,99,100,101])<|.ret) S) [8,98])<|q (R (oL 103 2 15<|oL 104 2 14<|cl 105 266 [t 103,t 104]<|om 102 105<|oe 106 102 0<|oe 107 102 1<|oS 2 15 106<|om 8 107<|N) [14,103,104,105,102,106,107])<|q (R (om 108 0<|oL 109 2 15<|om 110 8<|cl 111 265 [t 108,B false,t 109,t 110]<|oS 6 4 111<|N) [0,15,8,108,109,110,111])<|.ret
theorem ok191 : FT 191 112 ir191 [.cell 4 (some 6)] := .o Tryz.func191
def ir192 : Ic := q (R (ox 3 1<|ow 4 false<|N) [1,4])<|q (R (om 6 0<|oL 7 5 3<|cl 8 187 [t 6,t 7]<|oN 5 v6<|oS 6 5 8<|N) [3,6,7,8])<|q (q (R (om 9 0<|oc 10 9<|of 11 10 6<|ol 12 11<|oi 13 .eql 12 0<|om 14 13<|.sc 14 true (of 15 5 0<|ol 16 15<|oi 17 .neq 16 1<|N) (t 17) 18 N) [9,10,11,12,13,14])<|D (I 18 (R (om 19 0<|cl 20 190 [t 19,i 18]<|N) [18,19,20]) S) [18])<|q (R (om 21 0<|oc 22 21<|of 23 22 6<|ol 24 23<|oi 25 .eql 24 0<|om 26 25<|.sc 26 true (of 27 5 1<|ol 28 27<|oi 29 .eql 28 1<|N) (t 29) 30 (om 4 30<|N)) [0,5,21,22,23,24,25,26,30])<|.ret
theorem ok192 : FT 192 31 ir192 [.tmp 4] := .o Tryz.func192
def ir193 : Ic := q (R (ox 4 1<|ox 5 2<|ow 6 false<|N) [1,2,6])<|q (D (.block 0<|q (R (om 10 0<|oc 11 10<|of 12 11 6<|ol 13 12<|oi 14 .neq 13 0<|om 9 14<|N) [10,11,12,13,14])<|D (I 9 (q (R (ow 6 false<|N) [0,4,5,9])<|.ret) (q (R (oL 16 6 4<|cl 17 261 [t 16]<|om 18 17<|.sc 18 true (oL 19 6 5<|cl 20 261 [t 19]<|N) (t 20) 21 (om 15 21<|N)) [9,16,17,18,21])<|D (I 15 (q (D (.regd [(1,2)] (oL 23 6 4<|cl 24 263 [t 23]<|oL 25 6 5<|cl 26 263 [t 25]<|cl 27 262 [t 24,t 26]<|om 22 27<|oe 28 22 0<|oe 29 22 1<|om 7 28<|om 8 29<|N)) [4,5,15,23,24,25,26,27,22,28,29])<|q (q (R (om 30 8<|oi 31 .neq 30 0<|N) [30])<|D (I 31 (R (om 32 0<|om 33 8<|cl 34 190 [t 32,t 33]<|N) [0,31,32,33,34]) S) [0,31])<|q (R (om 35 8<|oi 36 .eql 35 0<|om 37 36<|.sc 37 true (om 38 7<|oi 39 .eql 38 0<|N) (t 39) 40 (om 6 40<|N)) [7,8,35,36,37,40])<|.ret) (q (R (of 42 4 0<|ol 43 42<|of 44 5 0<|ol 45 44<|ot 46 .neq 43 45<|om 41 46<|N) [15,42,43,44,45,46])<|D (I 41 (q (R (om 47 0<|cl 48 190 [t 47,i 18]<|N) [0,4,5,41,47,48])<|q (.reg (ow 6 false<|N))<|.ret) S) [0,41])) [])) []) [7,8])<|q (R (oL 49 6 4<|oL 50 6 5<|cl 51 17 [t 49,t 50]<|om 6 51<|N) [4,5,49,50,51])<|.ret
theorem ok193 : FT 193 52 ir193 [.tmp 6] := .o Tryz.func193
def ir195 : Ic := q (R (ox 4 1<|ox 5 2<|oN 6 v6<|N) [1,2])<|q (D (.block 0<|q (R (om 8 0<|oc 9 8<|of 10 9 6<|ol 11 10<|oi 12 .neq 11 0<|om 7 12<|N) [8,9,10,11,12])<|I 7 (q (R (oo 13 (.bld v6 [])<|oS 6 6 13<|N) [0,4,5,7,13])<|.ret) (q (R (of 15 4 0<|ol 16 15<|oi 17 .neq 16 4<|om 18 17<|.sc 18 false (of 19 5 0<|ol 20 19<|oi 21 .neq 20 4<|N) (t 21) 22 (om 14 22<|N)) [7,15,16,17,18,22])<|I 14 (q (R (om 23 0<|cl 24 190 [t 23,i 18]<|oS 6 6 24<|N) [0,4,5,14,23,24])<|.ret) (q (R (of 26 4 3<|ol 27 26<|oj 28 27<|of 29 5 3<|ol 30 29<|oj 31 30<|ot 32 .add 28 31<|oi 33 .gtr 32 1024<|om 25 33<|N) [14,26,27,28,29,30,31,32,33])<|D (I 25 (q (R (om 34 0<|cl 35 190 [t 34,i 5]<|oS 6 6 35<|N) [0,4,5,25,34,35])<|.ret) S) [0,25]))) [])<|q (R (of 36 4 3<|ol 37 36<|of 38 5 3<|ol 39 38<|ot 40 .cat 37 39<|cl 41 216 [t 40]<|oS 6 6 41<|N) [4,5,36,37,38,39,40,41])<|.ret
theorem ok195 : FT 195 42 ir195 [.cell 6 (some 6)] := .o Tryz.func195
def ir160 : Ic := q (R (oz 4 0<|N) [4])<|q (q (R (om 6 0<|oh 7 6<|oz 8 0<|N) [6])<|D (.block 0<|.loop (q (.reg (ot 9 .lss 8 7<|N))<|q (D (I 9 S (E 0)) [9])<|q (D (.block 1<|q (R (om 10 8<|om 5 10<|N) [10])<|q (R (om 11 1<|om 12 0<|om 13 5<|oa true 14 7 12 13<|oL 15 7 14<|.call (some 16) (.dyn (t 11)) [t 15] N) [11,12,13,14,15])<|D (I 16 (q (R (om 17 5<|om 4 17<|N) [0,1,7,8,5,16,17])<|.ret) S) [5,16]) [])<|R (oi 18 .add 8 1<|om 8 18<|N) [18])) [0,1,7,8,9,10,5,11])<|q (.reg (oz 4 (-1)<|N))<|.ret
theorem ok160 : FT 160 19 ir160 [.tmp 4] := .o Tryz.func160
def ir161 : Ic := q (R (ox 2 0<|ow 3 false<|N) [0,3])<|q (R (of 4 2 0<|ol 5 4<|ol 6 1<|ot 7 .sgt 5 6<|om 3 7<|N) [2,4,5,6,7])<|.ret
theorem ok161 : FT 161 8 ir161 [.tmp 3] := .o Tryz.func161
end Go.Proofs
namespace Av
open Go
variable {P : Program} {f : Nat}
mutual
def fits : Dat → Prop
 | .str s => s.length ≤ 68719476736
 | .int k n => k.min ≤ n ∧ n ≤ k.max
 | .list _ xs => xs.length ≤ 68719476736 ∧ fitsL xs
 | .agg cs => fitsL cs
 | .ptr cs => fitsL cs
 | .iface _ d => fits d
 | _ => True
def fitsL : List Dat → Prop
 | [] => True
 | x :: r => fits x ∧ fitsL r
end
theorem fitsL_iff : ∀ {l : List Dat}, fitsL l ↔ ∀ x ∈ l, fits x
 | [] => by simp [fitsL]
 | x :: r => by simp [fitsL, fitsL_iff (l := r)]
theorem fits_cells {x : Dat} (h : ∀ c ∈ x.cells, fits c) : fits x := by
 cases x with
 | agg cs => simp only [fits]; exact fitsL_iff.2 h
 | _ => exact h _ (by simp [Dat.cells])
theorem Rep.fits {A : Nat → Prop} {w : World} {x : Dat} {v : Value} (h : Rep A w x v) : Av.fits x := by
 induction h with
 | str s h => exact h
 | int k n h => exact h
 | emp sz a cap => simp [Av.fits, fitsL]
 | list sz xs b o n cap vs hn hAb hl hc h1 hsz hh hvl hv ih =>
  refine ⟨hc, fitsL_iff.2 fun x hx => fits_cells fun c hc' => ?_⟩;have hm : c ∈ flat xs := List.mem_flatMap.2 ⟨x, hx, hc'⟩;obtain ⟨i, hi, rfl⟩ := List.getElem_of_mem hm;exact ih i _ _ (List.getElem?_eq_getElem hi) (List.getElem?_eq_getElem oM)
 | agg cs arr hl h1 hv ih =>
  simp only [Av.fits];refine fitsL_iff.2 fun c hc => ?_
  obtain ⟨i, hi, rfl⟩ := List.getElem_of_mem hc;exact ih i _ _ (List.getElem?_eq_getElem hi) (Array.getElem?_eq_getElem oM)
 | ptr cs b o vs hAb h1 hh hvl hv ih =>
  simp only [Av.fits];refine fitsL_iff.2 fun c hc => ?_
  obtain ⟨i, hi, rfl⟩ := List.getElem_of_mem hc;exact ih i _ _ (List.getElem?_eq_getElem hi) (List.getElem?_eq_getElem oM)
 | iface t x v h ih => exact ih
 | _ => trivial
variable [Glb] [Rls]
theorem PCon.of_fits {ds : List Dat} {v : Av} (hh : Has P f) (h : (∀ d ∈ ds, fits d) → PCon P f ds v) : PCon P f ds v := by
 refine ⟨hh, fun β A w vs hc hvs => (h fun d hd => ?_).2 β A w vs hc hvs⟩;obtain ⟨i, hi, rfl⟩ := List.getElem_of_mem hd;have hl : ds.length = vs.size := sX hvs.1;have := hvs.2 i (.d ds[i]) vs[i] (by simp [hi]) sP;exact this.of_d.fits
theorem Con.of_fits {args : List Av} {T : List (Nat × Obj)} {v : Av} {ups : List (Nat × Obj)} (hh : Has P f) (h : (∀ d, .d d ∈ args → fits d) → Con P f args T v ups) : Con P f args T v ups := by
 refine ⟨hh, fun β A w vs hc hvs => (h fun d hd => ?_).2 β A w vs hc hvs⟩;obtain ⟨i, hi, e⟩ := List.getElem_of_mem hd;have := hvs.2 i (.d d) (vs[i]'(by have := hvs.1; omega)) (by rw [← e]; simp) sP;exact this.of_d.fits
theorem FnOk.has {N : Nat} {ic : Ic} {ris : List RI} (h : FnOk P f N ic ris) : Has P f := by
 obtain ⟨fn, code, h1, h2, h3, _⟩ := h.ex;exact ⟨fn, h1, by rw [h2]; rfl, h3⟩
end Av
namespace Av
open Go Go.Sort Go.Proofs
variable [Glb] [Rls]
variable {b i : Nat} {P : Program}
theorem putRow_setRow {w : World} {C : Array Value} {T : TypeId} {fr : Nat × Nat} (d : Array (List UInt8)) (hh : w.heap[b]? = some (.cells C T fr)) : putRow encStr w b 0 d = w.setRow b (putCells encStr 0 d C) := by
 unfold putRow mapBlock World.setRow;congr 1;apply Array.ext_getElem?;intro k;simp only [Array.getElem?_modify];by_cases hk : b = k
 ·subst hk;rw [hh];rfl
 ·simp [hk]
theorem flat_str (l : List (List UInt8)) : flat (l.map .str) = l.map .str := by
 induction l with
 | nil => rfl
 | cons x r ih => simp only [flat, List.map_cons, List.flatMap_cons, Dat.cells, List.singleton_append, List.cons.injEq, true_and]; exact ih
section
variable {β : Blocks} {A : Nat → Prop} {w : World} {H : Heap}
theorem Stp.rowPut (hc : Core β A w H) {ver ver' cap m n : Nat} {ss ys : List (List UInt8)} {C : Array Value} {T : TypeId} (os : Array Go.Obj) (hi : H i = some (.row ver 1 (ss.map .str))) (hb : β i = some b)
  (hh : w.heap[b]? = some (.cells C T (0, 0))) (hcap : C.size = cap * 1) (hys : ys.length ≤ cap) (hm : m ≤ ys.length) (hver : ver ≤ ver') (hlen : ver' = ver → m = ss.length) (hl : ∀ y ∈ ys.take m, y.length ≤ 68719476736) (hbnd : m ≤ 68719476736) :
  Stp β A w H β A (grow (putRow encStr (ahead w n) b 0 ys.toArray) os) (upd H i (some (.row ver' 1 ((ys.take m).map .str)))) ∧
   (grow (putRow encStr (ahead w n) b 0 ys.toArray) os).heap[b]? = some (.cells (putCells encStr 0 ys.toArray C) T (0, 0)) := by
 have h1 : Stp β A w H β A (ahead w n) H := Stp.draw hc rfl rfl rfl rfl;have hh' : (ahead w n).heap[b]? = some (.cells C T (0, 0)) := hh;rw [putRow_setRow _ hh'];have hsz : (putCells encStr 0 ys.toArray C).size = C.size := by simp [putCells]
 have hget : ∀ k, (putCells encStr 0 ys.toArray C)[k]? = (C[k]?).map fun x => if k < ys.length then encStr ys.toArray[k]! else x := by
  intro k;simp only [putCells, Array.getElem?_mapIdx, Nat.zero_le, true_and, Nat.zero_add, List.size_toArray, Nat.sub_zero]
 have hcell : ∀ (j : Nat) y v, (ys.take m)[j]? = some y → (putCells encStr 0 ys.toArray C)[j]? = some v → v = .string ⟨y.toArray⟩ := by
  intro j y v hy hv;rw [hget] at hv;obtain ⟨hj, rfl⟩ := List.getElem?_eq_some_iff.1 hy;have hj' : j < m ∧ j < ys.length := by simp only [List.length_take] at hj; omega
  cases hC : C[j]? with
  | none => rw [hC] at hv; cases hv
  | some x =>
   rw [hC] at hv;simp only [Option.map_some, if_pos hj'.2, Option.some.injEq] at hv;rw [← hv];simp [hj'.2]
 have h2 := Stp.rowSet h1.core (ver' := ver') (xs' := (ys.take m).map .str) (C' := putCells encStr 0 ys.toArray C) hi hb hh' hcap hsz hver (fun e => by have := hlen e; simp; omega)
  (fun x hx => by obtain ⟨y, _, rfl⟩ := List.mem_map.1 hx; rfl) sO sO
  (fun j v hj hv => by
   rw [flat_str] at hj;obtain ⟨y, hy⟩ : ∃ y, (ys.take m)[j]? = some y := ⟨_, List.getElem?_eq_getElem (sX hj)⟩;rw [hcell j y v hy hv]
   rfl)
  (fun j c v hc' hv => by
   rw [flat_str, List.getElem?_map] at hc';cases hy : (ys.take m)[j]? with
   | none => rw [hy] at hc'; cases hc'
   | some y =>
    rw [hy] at hc';cases hc';rw [hcell j y v hy hv];exact .str _ (hl y (List.mem_of_getElem? hy)))
 have hsame : ∀ k, k < ((ahead w n).setRow b (putCells encStr 0 ys.toArray C)).heap.size → (grow ((ahead w n).setRow b (putCells encStr 0 ys.toArray C)) os).heap[k]? = ((ahead w n).setRow b (putCells encStr 0 ys.toArray C)).heap[k]? := by
  intro k hk;show (_ ++ os)[k]? = _;rw [Array.getElem?_append_left hk]
 have h3 : Stp β A ((ahead w n).setRow b (putCells encStr 0 ys.toArray C)) (upd H i (some (.row ver' 1 ((ys.take m).map .str)))) β A (grow ((ahead w n).setRow b (putCells encStr 0 ys.toArray C)) os) (upd H i (some (.row ver' 1 ((ys.take m).map .str)))) :=
  Stp.new h2.core rfl rfl rfl (by simp [grow]) hsame (fun _ h => h) (fun _ h => .inl h) (fun k h => by have := h2.core.old k h; simp [grow] at this ⊢; omega)
 refine ⟨(h1.trans h2).trans h3, ?_⟩;have hset := setRow_heap (ahead w n) b C (putCells encStr 0 ys.toArray C) T (0, 0) hh';rw [hsame b (Array.getElem?_eq_some_iff.1 hset).1, hset]
theorem size_one {vs : Array Value} (h : 1 = vs.size) : ∃ x, vs = #[x] := by
 refine ⟨vs[0], ?_⟩;apply Array.ext
 ·simp [← h]
 ·intro i h1 h2;have : i = 0 := oM;subst this;rfl
theorem row_mem (hc : Core β A w H) {v : Nat} {ss : List (List UInt8)} (hi : H i = some (.row v 1 (ss.map .str))) {u : Value} (hu : VRep β A w H (.ms i v) u) :
  (β i = none ∧ ss = [] ∧ ∃ a, u = .slice a 0 0) ∨ ∃ b C T cap, β i = some b ∧ w.heap[b]? = some (.cells C T (0, 0)) ∧ C.size = cap * 1 ∧ ss.length ≤ cap ∧ u = .slice (some ⟨b, 0, none⟩) ss.length cap ∧
   Go.Sort.Holds encStr w b 0 ss.toArray ∧ ∀ s ∈ ss, s.length ≤ 68719476736 := by
 obtain ⟨_, hcell, hbnd, hrow⟩ := hc.objs i _ hi;cases hu with
 | ms _ _ _ hoc h0 h1 h2 =>
  obtain ⟨_, hrv⟩ := h1 _ _ _ hi;have hrv := hrv rfl;rcases hrv with ⟨hbn, hn, a, rfl⟩ | ⟨b, C, T, fz, cap, hb, hh, hC, hle, rfl⟩
  ·exact .inl ⟨hbn, by simpa using hn, a, rfl⟩
  ·rcases hrow with ⟨hbn, _⟩ | ⟨b', C', T', cap', hb', hh', hC', hle', h1c, h2c⟩
   ·rw [hb] at hbn; cases hbn
   ·rw [hb] at hb';cases hb';rw [hh] at hh';cases hh';have hval : ∀ j (hj : j < ss.length), C[j]? = some (encStr ss[j]) ∧ ss[j].length ≤ 68719476736 := by
     intro j hj;have hlt : j < C.size := by rw [hC]; simp at hle; omega
     have := h2c j (.str ss[j]) C[j] (by rw [flat_str]; simp [hj]) (by simp [hlt]);generalize hz : C[j] = z at this;cases this with
     | str _ hs => exact ⟨by rw [Array.getElem?_eq_getElem hlt, hz], hs⟩
    refine .inr ⟨b, C, T, cap, hb, hh, hC, by simpa using hle, sP, ?_, ?_⟩
    ·intro j hj;have hj : j < ss.length := sX hj;refine ⟨?_, ?_⟩
     ·simp only [World.cell?, hh, Nat.zero_add];rw [(hval j hj).1];simp [hj]
     ·simp [World.frozen?, hh]
    ·intro s hs;obtain ⟨j, hj, rfl⟩ := List.getElem_of_mem hs;exact (hval j hj).2
end
def sortS (ss : List (List UInt8)) : List (List UInt8) := ss.mergeSort fun x y => decide (x ≤ y)
theorem sortS_perm (ss : List (List UInt8)) : (sortS ss).Perm ss := List.mergeSort_perm _ _
theorem CallOK.sort {f : Nat} (hh : Has P f)
  (hS : ∀ (b cap : Nat) (ss : List (List UInt8)) (w : World), Go.Sort.Holds encStr w b 0 ss.toArray → b < w.heap.size → ss.length < 4611686018427387904 → Calls P f #[.slice (some ⟨b, 0, none⟩) ss.length cap] w fun e w' => e = .returned (.tuple #[]) ∧
   ∃ n os, w' = grow (putRow encStr (ahead w n) b 0 (ss.mergeSort fun x y => decide (x ≤ y)).toArray) os)
  (hN : ∀ (a : Option Addr) (cap : Nat) (w : World), Calls P f #[.slice a 0 cap] w fun e w' => e = .returned (.tuple #[]) ∧ w' = w) (i v : Nat) (ss : List (List UInt8)) :
  CallOK P f [.ms i v] [(i, some (.row v 1 (ss.map .str)))] (.tup []) [(i, .row v 1 ((sortS ss).map .str))] := by
 intro β A w H vs hT hc hvs;have hi : H i = some (.row v 1 (ss.map .str)) := hT _ (List.mem_singleton.2 rfl);have hbnd := (hc.objs i _ hi).2.2.1;obtain ⟨u, rfl⟩ := size_one hvs.1;have hu := hvs.2 0 (.ms i v) u rfl rfl;refine .inl ⟨hh, ?_⟩;rcases row_mem hc hi hu with ⟨hbn, rfl, a, rfl⟩ | ⟨b, C, T, cap, hb, hheap, hC, hle, rfl, hH, hlen⟩
 ·refine (hN a 0 w).mono ?_;rintro e w' ⟨rfl, rfl⟩;refine ⟨_, rfl, β, A, ?_, .tup [] #[] rfl sP⟩;have : hputs H [(i, .row v 1 ((sortS []).map .str))] = H := by
   simp only [hputs, sortS, List.mergeSort_nil, List.map_nil];exact upd_self _ _ _ (sX hi)
  rw [this];exact Stp.refl hc
 ·refine (hS b cap ss w hH (Array.getElem?_eq_some_iff.1 hheap).1 (by simp at hbnd; omega)).mono ?_;rintro e w' ⟨rfl, n, os, rfl⟩;refine ⟨_, rfl, β, A, ?_, .tup [] #[] rfl sP⟩;have hl : (sortS ss).length = ss.length := (sortS_perm ss).length_eq;have := (Stp.rowPut hc (ver' := v) (m := ss.length) (n := n) (ys := sortS ss) os hi hb hheap hC oM oM (Nat.le_refl _) (fun _ => rfl) (fun y hy => hlen y ((sortS_perm ss).mem_iff.1 (List.mem_of_mem_take hy))) (sX hbnd)).1;rw [List.take_of_length_le oM] at this;exact this
theorem CallOK.compact {f : Nat} (hh : Has P f)
  (hS : ∀ (b cap : Nat) (ss : List (List UInt8)) (w : World), Go.Sort.Holds encStr w b 0 ss.toArray → ss.length ≤ 9223372036854775807 → ss.length ≤ cap → Calls P f #[.slice (some ⟨b, 0, none⟩) ss.length cap] w fun e w' => e = .returned (.slice (some ⟨b, 0, none⟩) (Lib.compact ss).length cap) ∧
   ∃ q, w' = putRow encStr (ahead w q) b 0 (Lib.compact ss ++ List.replicate (ss.length - (Lib.compact ss).length) []).toArray)
  (hN : ∀ (a : Option Addr) (cap : Nat) (w : World), Calls P f #[.slice a 0 cap] w fun e w' => e = .returned (.slice a 0 cap) ∧ w' = w) (hsub : ∀ ss : List (List UInt8), (Lib.compact ss).Sublist ss) (i v : Nat) (ss : List (List UInt8)) :
  CallOK P f [.ms i v] [(i, some (.row v 1 (ss.map .str)))] (.ms i (v + 1)) [(i, .row (v + 1) 1 ((Lib.compact ss).map .str))] := by
 intro β A w H vs hT hc hvs;have hi : H i = some (.row v 1 (ss.map .str)) := hT _ (List.mem_singleton.2 rfl);have hbnd := (hc.objs i _ hi).2.2.1;obtain ⟨u, rfl⟩ := size_one hvs.1;have hu := hvs.2 0 (.ms i v) u rfl rfl;refine .inl ⟨hh, ?_⟩;rcases row_mem hc hi hu with ⟨hbn, rfl, a, rfl⟩ | ⟨b, C, T, cap, hb, hheap, hC, hle, rfl, hH, hlen⟩
 ·refine (hN a 0 w).mono ?_;rintro e w' ⟨rfl, hw⟩;have hw := hw.symm;subst hw;have hc0 : Lib.compact ([] : List (List UInt8)) = [] := List.eq_nil_of_length_eq_zero (Nat.le_zero.1 (hsub []).length_le);rw [hc0];have hst : Stp β A w H (upd β i none) A w (upd H i (some (.row (v + 1) 1 []))) :=
   Stp.one hc i (.row (v + 1) 1 []) none rfl rfl rfl (Nat.le_refl _) (fun _ _ _ => rfl) (fun _ h => h) (fun _ h => .inl h) (fun b h => hc.old b h) sP (fun c u hcase hvr => old_vals (.inr ⟨v, 1, _, hi, oM⟩) c u hcase hvr)
    (fun _ => ⟨dC, sP, sP, .inl ⟨upd_same _ _ _, rfl⟩⟩)
  refine ⟨_, rfl, _, A, hst, ?_⟩;refine .ms _ _ _ rfl (by simp [hputs, upd]) ?_ (by simp [hputs, upd]);intro v3 sz3 xs3 h3;simp only [hputs, upd, List.map_nil, if_true, Option.some.injEq, Obj.row.injEq] at h3;obtain ⟨rfl, rfl, rfl⟩ := h3;exact ⟨Nat.le_refl _, fun _ => .inl ⟨upd_same _ _ _, rfl, a, rfl⟩⟩
 ·refine (hS b cap ss w hH (by simp at hbnd; omega) hle).mono ?_;rintro e w' ⟨rfl, q, rfl⟩;have hs := hsub ss;have hl := hs.length_le;obtain ⟨h1, h2⟩ := Stp.rowPut hc (ver' := v + 1) (m := (Lib.compact ss).length) (n := q) (ys := Lib.compact ss ++ List.replicate (ss.length - (Lib.compact ss).length) []) #[] hi hb hheap hC sO sP oM (fun h => by omega)
   (fun y hy => hlen y (hs.subset (sX hy))) (by simp at hbnd; omega)
  have e0 : ∀ w : World, grow w #[] = w := fun w => by simp [grow]
  rw [e0] at h1 h2;simp only [List.take_left'] at h1;refine ⟨_, rfl, β, A, h1, ?_⟩;refine .ms _ _ _ rfl (by simp [hputs, upd]) ?_ (by simp [hputs, upd]);intro v3 sz3 xs3 h3;simp only [hputs, upd, if_true, Option.some.injEq, Obj.row.injEq] at h3;obtain ⟨rfl, rfl, rfl⟩ := h3;refine ⟨Nat.le_refl _, fun _ => .inr ⟨b, _, T, (0, 0), cap, hb, h2, by simp [putCells, hC], sO, sP⟩⟩
theorem hputs_out : ∀ (ups : List (Nat × Obj)) (H : Heap) (m : Nat), ¬ (get ups m).isSome = true → hputs H ups m = H m
 | [], H, m, _ => rfl
 | (i, o) :: r, H, m, h => by
  simp only [get] at h;split at h
  ·exact absurd rfl h
  ·rename_i hne;simp only [hputs];rw [hputs_out r _ m h, upd_ne _ _ (Ne.symm hne)]
theorem hputs_same : ∀ (ups : List (Nat × Obj)) (H H' : Heap) (m : Nat), (get ups m).isSome = true → hputs H ups m = hputs H' ups m
 | [], H, H', m, h => by cases h
 | (i, o) :: r, H, H', m, h => by
  simp only [hputs];by_cases hr : (get r m).isSome = true
  ·exact hputs_same r _ _ m hr
  ·rw [hputs_out r _ m hr, hputs_out r _ m hr];simp only [get] at h;split at h
   ·rename_i e; subst e; rw [upd_same, upd_same]
   ·exact absurd h hr
theorem Stp.nilB {β : Blocks} {A : Nat → Prop} {w : World} {H : Heap} (hc : Core β A w H) {j k sz : Nat} {cs : List Av} (hb : H b = some (.box cs)) (hj : cs[j]? = some (.d (.nil sz))) (hk : H k = none) (hsz : 0 < sz) :
  ∃ β', Stp β A w H β' A w (upd (upd H k (some (.row 0 sz []))) b (some (.box (cs.set j (.ms k 0))))) := by
 have hne : b ≠ k := fun e => by subst e; rw [hk] at hb; cases hb
 have hst := Stp.rowNil (β := β) hc hk hsz;have hb1 : upd H k (some (.row 0 sz [])) b = some (.box cs) := by rw [upd_ne _ _ hne]; exact hb
 obtain ⟨bb, C, T, e1, e2, e3, e4, e5⟩ := hst.core.objs b _ hb1;have hset : w.setRow bb C = w := setRow_same e2;have hst2 := Stp.boxSet (cs' := cs.set j (.ms k 0)) (C' := C) hst.core hb1 e1 e2 (sX e3) e4 (fun hall i c v hc' hv' => by
  rw [List.getElem?_set] at hc';split at hc'
  ·rename_i e;subst e;split at hc'
   ·cases hc';obtain ⟨bb0, C0, T0, q1, q2, q3, q4, q5⟩ := hc.objs b _ hb;have hbb : bb0 = bb := by
     rw [upd_ne _ _ hne] at e1;rw [q1] at e1;exact Option.some.inj e1
    subst hbb;rw [e2] at q2;cases q2;have hr := (q5 j _ v hj hv').of_d;exact hall _ _ (VRep.rowNil hr)
   ·cases hc'
  ·exact hall _ _ (e5 i c v hc' hv'))
 rw [hset] at hst2;exact ⟨_, hst.trans hst2⟩
theorem CallOK.nilBox {f : Cee} {args : List Av} {v : Av} {ups : List (Nat × Obj)} {T : List (Nat × Option Obj)} {k sz j : Nat} {cs : List Av}
  (h : CallOK P f args ((i, some (.box (cs.set j (.ms k 0)))) :: (k, some (.row 0 sz [])) :: T) v ups) (hT : ∀ e ∈ T, e.1 ≠ i ∧ e.1 ≠ k) (hik : i ≠ k) (hj : cs[j]? = some (.d (.nil sz))) (hsz : 0 < sz)
  (hui : (get ups i).isSome = true) (huk : (get ups k).isSome = true) : CallOK P f args ((i, some (.box cs)) :: (k, none) :: T) v ups := by
 intro β A w H vs hT' hc hvs;have hi : H i = some (.box cs) := hT' (i, some (.box cs)) List.mem_cons_self;have hk : H k = none := hT' (k, none) (List.mem_cons_of_mem _ List.mem_cons_self);have hst := Stp.nilB hc hi hj hk hsz;obtain ⟨β2, hst⟩ := hst;have hput : hputs (upd (upd H k (some (.row 0 sz []))) i (some (.box (cs.set j (.ms k 0))))) ups = hputs H ups := by
  funext m;by_cases hm : (get ups m).isSome = true
  ·exact hputs_same ups _ _ m hm
  ·have hmi : m ≠ i := fun e => hm (e ▸ hui)
   have hmk : m ≠ k := fun e => hm (e ▸ huk)
   rw [hputs_out ups _ m hm, hputs_out ups _ m hm, upd_ne _ _ hmi, upd_ne _ _ hmk]
 have := h β2 A w _ vs (fun e he => ?_) hst.core ⟨hvs.1, fun n c u h1 h2 => hst.vals c u (hvs.2 n c u h1 h2)⟩
 ·rw [hput] at this;cases f with
  | fn g =>
   rcases this with ⟨a1, a2⟩ | ⟨u, w', a1, β', A', a2, a3⟩
   ·refine .inl ⟨a1, a2.mono ?_⟩;rintro e w' ⟨u, rfl, β', A', b1, b2⟩;exact ⟨u, rfl, β', A', hst.trans b1, b2⟩
   ·exact .inr ⟨u, w', a1, β', A', hst.trans a2, a3⟩
  | yld =>
   obtain ⟨l, rest, a1, fn, tmps, asg, body, a2, a3⟩ := this;refine ⟨l, rest, a1, fn, tmps, asg, body, a2, a3.mono ?_⟩;rintro e w' ⟨u, rfl, β', A', b1, b2⟩;exact ⟨u, rfl, β', A', hst.trans b1, b2⟩
 ·simp only [List.mem_cons] at he;rcases he with rfl | rfl | he
  ·exact upd_same _ _ _
  ·rw [upd_ne _ _ (Ne.symm hik)]; exact upd_same _ _ _
  ·obtain ⟨q1, q2⟩ := hT e he;rw [upd_ne _ _ q1, upd_ne _ _ q2];exact hT' e (List.mem_cons_of_mem _ (List.mem_cons_of_mem _ he))
end Av
namespace Av
open Go
variable [Glb] [Rls]
section
variable {β : Blocks} {A : Nat → Prop} {w : World} {H : Heap} {D : Nat → Prop}
theorem VRep.sub_of_ms {i ver sz : Nat} {xs : List Dat} {u : Value} (h : VRep β A w H (.ms i ver) u) (hi : H i = some (.row ver sz xs)) : VRep β A w H (.sub i ver 0 xs.length) u := by
 cases h with
 | ms _ _ _ hu h0 h1 h2 =>
  refine .sub _ _ _ _ _ hu h0 ?_ ?_
  ·intro v' sz' xs' hr;obtain ⟨g1, g2⟩ := h1 v' sz' xs' hr;refine ⟨g1, fun e => ?_⟩;rw [hi] at hr;cases hr;refine ⟨oM, ?_⟩;rcases g2 rfl with ⟨b0, n0, a, rfl⟩ | ⟨b, C, T, fz, cap, e1, e2, e3, e4, rfl⟩
   ·exact .inl ⟨b0, rfl, n0, a, rfl⟩
   ·exact .inr ⟨b, C, T, fz, cap, ⟨b, 0, none⟩, e1, e2, e3, oM, fun _ => by simp, sP⟩
  ·intro sz' xs' hr;rw [hi] at hr;cases hr
theorem Wk.subT {st : St} (t i ver sz : Nat) (xs : List Dat) (ht : get st.tm t = some (.ms i ver)) (hi : get st.hp i = some (.row ver sz xs)) : Wk D st ⟨put st.tm t (.sub i ver 0 xs.length), st.hp⟩ := by
 intro β A w a hc htr;refine ⟨β, A, hc, fun t' v hv => ?_, fun i o b h1 h2 h3 => ⟨i, o, h1, h2, h3⟩, fun _ h => .inl h, fun c u _ h => h⟩;rw [get_put] at hv;split at hv
 ·rename_i e;subst e;cases hv;obtain ⟨u, q1, q2⟩ := htr t' _ ht;exact ⟨u, q1, q2.sub_of_ms hi⟩
 ·exact htr t' v hv
end
end Av
namespace Av
open Go
variable [Glb] [Rls]
theorem ren_dats (ρ : Nat → Nat) (ds : List Dat) : renL ρ (ds.map .d) = ds.map .d := by
 induction ds with
 | nil => rfl
 | cons x r ih => simp [renL, Av.ren, ih]
theorem ren_pure {v : Av} (h : pureR v) (ρ : Nat → Nat) : v.ren ρ = v := by
 cases v with
 | d x => rfl
 | tup cs =>
  have h' : ∀ c ∈ cs, ∃ x, c = .d x := h;have e : ∃ ds : List Dat, cs = ds.map .d := by
   clear h
   induction cs with
   | nil => exact ⟨[], rfl⟩
   | cons c r ih =>
    obtain ⟨x, rfl⟩ := h' c List.mem_cons_self;obtain ⟨ds, rfl⟩ := ih fun c hc => h' c (List.mem_cons_of_mem _ hc)
    exact ⟨x :: ds, rfl⟩
  obtain ⟨ds, rfl⟩ := e;simp only [Av.ren, ren_dats]
 | _ => exact h.elim
theorem idsInL_dats (G : Nat → Option Obj) (ds : List Dat) : idsInL G (ds.map .d) := by
 induction ds with
 | nil => trivial
 | cons x r ih => exact ⟨trivial, ih⟩
theorem inT_pure {v : Av} (h : pureR v) (G : Heap) : inT G v := by
 cases v with
 | d x => trivial
 | tup cs =>
  have h' : ∀ c ∈ cs, ∃ x, c = .d x := h;show idsInL _ cs;clear h
  induction cs with
  | nil => trivial
  | cons c r ih =>
   obtain ⟨x, rfl⟩ := h' c List.mem_cons_self;exact ⟨trivial, ih fun c hc => h' c (List.mem_cons_of_mem _ hc)⟩
 | _ => exact h.elim
theorem Con.rw1 {P : Program} {f : Nat} {az cs cs' : List Dat} {v : Av} (h : Con P f (.ref 1000 0 :: az.map .d) [(1000, .box (cs.map .d))] v [(1000, .box (cs'.map .d))]) (hv : pureR v) (i : Nat) :
  CallOK P f (.ref i 0 :: az.map .d) [(i, some (.box (cs.map .d)))] v [(i, .box (cs'.map .d))] := by
 have hcl : ∀ a : List Dat, closed (get [(1000, .box (a.map .d))]) := fun a => closed_of ⟨idsInL_dats _ a, trivial⟩
 have hu : hputs (get [(1000, .box (cs.map .d))]) [(1000, .box (cs'.map .d))] = get [(1000, .box (cs'.map .d))] := by
  rw [← get_puts]; rfl
 have hdom : ∀ (a : List Dat) j, (get [(1000, Obj.box (a.map .d))] j).isSome = true → j = 1000 := by
  intro a j hj;simp only [get] at hj;split at hj
  ·rename_i e; exact e.symm
  ·cases hj
 have := h.call (fun _ => i) ?_ ?_ ?_ (hcl cs) [] ?_ ?_ ?_
 ·have e : (az.map Av.d).map (Av.ren fun _ => i) = az.map Av.d := by
   rw [List.map_map]; exact List.map_congr_left fun x _ => by simp [Av.ren]
  simpa [Av.ren, Obj.ren, ren_dats, e, ren_pure hv] using this
 ·intro j hj;rw [hdom _ j hj];decide
 ·intro a b ha hb _;rw [hu] at ha hb;rw [hdom _ a ha, hdom _ b hb]
 ·intro c hc;rcases List.mem_cons.1 hc with rfl | hc
  ·rfl
  ·obtain ⟨x, _, rfl⟩ := List.mem_map.1 hc; trivial
 ·intro e he;simp only [List.mem_singleton] at he;subst he;exact .inl rfl
 ·rw [hu]; exact hcl cs'
 ·exact inT_pure hv _
end Av
namespace Av
open Go
variable [Glb] [Rls]
theorem Wk.frzT {D : Nat → Prop} {st : St} (t i v sz : Nat) (xs : List Dat) (ht : get st.tm t = some (.ms i v)) (hi : get st.hp i = some (.row v sz xs)) : Wk D st ⟨put st.tm t (.d (.list sz xs)), put st.hp i (.frz v sz xs)⟩ := by
 refine Wk.of_stp ?_;intro β A w a hc htr;obtain ⟨u, q1, q2⟩ := htr t _ ht;have hd : datumAll (get st.hp) [.ms i v] = some (v = v ∧ True, [.list sz xs], [(i, .frz v sz xs)]) := by simp [datumAll, datum, datum1, hi]
 obtain ⟨A1, s1, l1, r1, m1⟩ := datumAll_ok hc hd ⟨rfl, trivial⟩ (us := [u]) rfl (fun k c u' h1 h2 => by
  cases k with
  | zero => simp at h1 h2; subst h1; subst h2; exact q2
  | succ k => simp at h1)
 have hh : get (put st.hp i (.frz v sz xs)) = hputs (get st.hp) [(i, .frz v sz xs)] := funext fun j => by rw [get_put]; rfl
 rw [hh];refine ⟨β, A1, s1, ?_⟩;intro t' v' hv;rw [get_put] at hv;split at hv
 ·rename_i e;subst e;cases hv;exact ⟨u, q1, .d _ _ (r1 0 _ u rfl rfl)⟩
 ·obtain ⟨u', g1, g2⟩ := htr t' v' hv;exact ⟨u', g1, s1.vals _ _ g2⟩
end Av
namespace Av
open Go
variable [Glb] [Rls]
abbrev cloD (g : Nat) (cs : List Dat) : Dat := .fn (.func g) [] [.ptr cs]
theorem allD_map (cs : List Dat) : allD (cs.map .d) = some cs := by
 induction cs with
 | nil => rfl
 | cons x r ih => simp only [List.map_cons, allD, ih]
theorem CallOK.clo {P : Program} {f g : Nat} {ds cs : List Dat} {r : Dat} (h : PCon P f (ds ++ [cloD g cs]) (.d r)) (hr : scalar r = true) (i : Nat) :
  CallOK P f (ds.map .d ++ [.clo (.func g) [] [.ref i 0]]) [(i, some (.box (cs.map .d)))] (.d r) [] := by
 intro β A w H vs hT hc hvs;have hi : H i = some (.box (cs.map .d)) := hT _ (List.mem_singleton.2 rfl);have st := Stp.freezeBox hc hi (allD_map cs);have hc0 : Core β (fun k => A k ∨ β i = some k) w (get []) := ⟨(by intro i o hi; cases hi), (by intro i j o o' b hi; cases hi), (by intro i o b hi; cases hi), st.core.old, st.core.glob⟩;refine .inl ⟨h.1, (h.2 β (fun k => A k ∨ β i = some k) w vs hc0 ⟨by have := hvs.1; simp at this ⊢; omega, ?_⟩).mono ?_⟩
 ·intro k c v h1 h2;rw [List.getElem?_map] at h1;cases e : (ds ++ [cloD g cs])[k]? with
  | none => simp [e] at h1
  | some x =>
   simp only [e, Option.map_some, Option.some.injEq] at h1;subst h1;refine .d _ _ ?_;by_cases hk : k < ds.length
   ·rw [List.getElem?_append_left hk] at e;have := hvs.2 k (.d x) v (by rw [List.getElem?_append_left (sX hk), List.getElem?_map, e]; rfl) h2;exact (st.vals _ _ this).of_d
   ·rw [List.getElem?_append_right oM] at e;have hk0 : k - ds.length = 0 := by
     rcases Nat.eq_zero_or_pos (k - ds.length) with h | h
     ·exact h
     ·rw [List.getElem?_eq_none sO] at e; cases e
    rw [hk0] at e;cases e;have hlen : (ds.map Av.d).length = ds.length := sP;have := hvs.2 k (.clo (.func g) [] [.ref i 0]) v (by rw [List.getElem?_append_right sO, hlen, hk0]; rfl) h2;have h3 := st.vals _ _ this;cases h3 with
    | clo _ _ _ a1 a2 l1 l2 hf hvv =>
     refine .fn _ _ _ a1 a2 l1 (sX l2) (by intro j c v hj; cases hj) ?_;intro j c v hj hjv
     match j, hj with
     | 0, hj =>
      cases hj;have hrf := hvv 0 _ v rfl hjv;cases hrf with
      | ref _ _ _ _ _ hu g0 g1 g2 =>
       have := g2 cs sU;simpa using this
     | j + 1, hj => cases hj
 ·rintro e w' ⟨v, β1, A1, rfl, hsince, hc1, hv⟩;obtain ⟨s1, s2, s3, s4, s5, sl, s6, s7, s8⟩ := hsince;dsimp only at s1 s2 s3 s4 s5 sl;have hsame : ∀ b, b < w.heap.size → w'.heap[b]? = w.heap[b]? := fun b hb => s5 b hb (by intro i o hi; cases hi)
  have hst : Stp β A w H β A w' H := Stp.new hc s1 s2 s3 s4 hsame (fun _ h => h) (fun _ h => .inl h) (fun b hb => by have := hc.old b hb; omega);exact ⟨v, rfl, β, A, hst, .d _ _ (hv.of_d.scalar hr)⟩
theorem PCon.callFr {P : Program} {f i v sz : Nat} {xs : List Dat} {r : Av} (h : PCon P f [.list sz xs] r) (hr : pureR r) : CallOK P f [.ms i v] [(i, some (.row v sz xs))] r [(i, .frz v sz xs)] := by
 intro β A w H vs hT hc hvs;have hi : H i = some (.row v sz xs) := hT _ (List.mem_singleton.2 rfl);have hd : datumAll H [.ms i v] = some (v = v ∧ True, [.list sz xs], [(i, .frz v sz xs)]) := by simp [datumAll, datum, datum1, hi]
 obtain ⟨A1, s1, l1, r1, m1⟩ := datumAll_ok hc hd ⟨rfl, trivial⟩ (us := vs.toList) (sX hvs.1) (fun k c u h1 h2 => hvs.2 k c u h1 (sX h2));have := h.call hr β A1 w _ vs sP s1.core ⟨by simpa using l1, fun k c u h1 h2 => by
  rw [List.getElem?_map] at h1;cases hq : [Dat.list sz xs][k]? with
  | none => rw [hq] at h1; cases h1
  | some x =>
   rw [hq] at h1;cases h1;exact .d _ _ (r1 k x u hq (sX h2))⟩
 rcases this with ⟨a1, a2⟩ | ⟨u, w', a1, β', A', a2, a3⟩
 ·refine .inl ⟨a1, a2.mono ?_⟩;rintro e w' ⟨u, rfl, β', A', b1, b2⟩;exact ⟨u, rfl, β', A', s1.trans b1, b2⟩
 ·exact .inr ⟨u, w', a1, β', A', s1.trans a2, a3⟩
end Av
namespace Go.Proofs
open Go Av
def ixF (q : Fld → Bool) (l : List Fld) : Int := match l.findIdx? q with
 | some k => (k : Int)
 | none => -1
theorem walk160 {g : Nat} {cs : List Dat} {q : Fld → Bool} (hq : ∀ x, PT g [encF x, .ptr cs] (.d (.bool (q x)))) (l : List Fld) (hl : l.length ≤ 68719476736) :
  PT 160 [.list 7 (l.map encF), cloD g cs] (.d (.int .i64 (ixF q l))) := by
 refine ok160.pc ?_;simp only [go_sem, ir160, List.length_map, simprocAttr];refine wpc_loop (fun n s => ∃ k : Nat, k ≤ l.length ∧ n = l.length - k ∧ (∀ (j : Nat) (h1 : j < l.length), j < k → q l[j] = false) ∧
  s = ⟨[(0, .d (.list 7 (l.map encF))), (1, .d (cloD g cs)), (7, .d (.int .i64 l.length)), (8, .d (.int .i64 k))], []⟩) ?_ ?_
 ·exact ⟨_, _, Wk.refl _, 0, Nat.zero_le _, rfl, sP, rfl⟩
 ·rintro n s ⟨k, hk, rfl, hinv, rfl⟩;by_cases hlt : k < l.length
  ·have hx := nth_encF hlt;have hd := dT hlt;have hc := (hq l[k]).call trivial;rw [encF_eq] at hc;refine zz8 ?_;refine ⟨oM, wn hc ?_⟩;refine zz ?_;apply ik <;> intro hf
   ·have : l.findIdx? q = some k := by
     rw [List.findIdx?_eq_some_iff_getElem];exact ⟨hlt, hf, fun j hj => by rw [hinv j oM hj]; decide⟩
    simp only [ixF, this]
   ·refine ⟨l.length - (k + 1), _, oM, Wk.less ?_, k + 1, oM, rfl, ?_, rfl⟩
    ·exact zz10 trivial
    ·intro j h1 hj;by_cases e : j = k
     ·subst e; exact hf
     ·exact hinv j h1 oM
  ·have hd := dF hlt;refine zz15 ?_;have : l.findIdx? q = none := by
    rw [List.findIdx?_eq_none_iff];intro x hx;obtain ⟨j, hj, rfl⟩ := List.getElem_of_mem hx;exact hinv j hj oM
   simp only [ixF, this]
theorem ixF_bd {q : Fld → Bool} {l : List Fld} : -1 ≤ ixF q l ∧ ixF q l < l.length := by
 unfold ixF;cases e : l.findIdx? q with
 | none => simp only; omega
 | some k =>
  obtain ⟨h, _⟩ := List.findIdx?_eq_some_iff_getElem.1 e;simp only; omega
theorem walk239 (x : Fld) (n : Str) : PT 239 [encF x, .ptr [.str n]] (.d (.bool (x.name == n))) := by
 refine ok239.pc ?_;rw [encF_eq];refine zz53 ?_;exact Nat.one_pos
def gtB (a b : Str) : Bool := !(strLt a b || a == b)
theorem walk161 (x : Fld) (n : Str) : PT 161 [encF x, .ptr [.str n]] (.d (.bool (gtB x.name n))) := by
 refine ok161.pc ?_;rw [encF_eq];simp only [go_sem, ir161, gtB, Nat.reduceAdd, Nat.reduceEqDiff, Nat.reduceBEq, Nat.reduceLeDiff, reduceCtorEq, ↓reduceIte];exact Nat.one_pos
def ixN (n : Str) (l : List Fld) : Int := ixF (fun f => f.name == n) l
theorem walk164 (v : Val) (n : Str) (hl : v.fields.length ≤ 68719476736) : PT 164 [encV v, .str n] (.d (.int .i64 (ixN n v.fields))) := by
 refine ok164.pc ?_;have hc := CallOK.clo (ds := [.list 7 (v.fields.map encF)]) (walk160 (fun x => walk239 x n) v.fields hl) rfl 3;simp only [List.map_cons, List.map_nil, List.cons_append, List.nil_append] at hc;rw [encV_eq];simp only [go_sem, ir164, simprocAttr];refine wn hc ?_;simp only [go_sem, ixN, simprocAttr]
def appP (p : Part) (v : Val) : Bool := if p.kind == 1 then v.kind == 9 else if p.kind == 4 then (v.kind == 10) && (((v.list.length : Nat) : Int) == 1) else v.kind == 8
theorem walk156 (p : Part) (v : Val) : PT 156 [encP p, encV v] (.d (.bool (appP p v))) := by
 refine ok156.pc ?_;rw [encV_eq];simp only [encP, appP];simp only [go_sem, ir156, simprocAttr];apply ik <;> intro h
 ·simp only [h, ↓reduceIte]
 simp only [h, Bool.false_eq_true, ↓reduceIte]
 try refine zz ?_
 apply ik <;> intro h2
 ·simp only [h2, ↓reduceIte];refine sq (((v.list.length : Nat) : Int) == 1) ?_ ?_
  ·exact zz7 trivial
  ·exact zz trivial
 ·simp only [h2, Bool.false_eq_true, ↓reduceIte]
def ledP (p : Part) (v : Val) : List Val :=
 if p.kind == 1 then (if ixN p.name v.fields ≥ 0 then [((v.fields[(ixN p.name v.fields).toNat]?).map Fld.value).getD (.mk 0 0 0 [] [] [])] else [])
 else if (p.kind == 3) || ((p.kind == 4) && (v.text == p.name)) then v.list
 else if (p.kind == 2) && decide (p.index < ((v.list.length : Nat) : Int)) then (v.list.drop p.index.toNat).take 1 else []
theorem walk84 (p : Part) (v : Val) (hl : v.fields.length ≤ 68719476736) (hl2 : v.list.length ≤ 68719476736) (hi : 0 ≤ p.index) : PT 84 [encP p, encV v] (.d (.list 6 ((ledP p v).map encV))) := by
 refine ok84.pc ?_;have c164 := (walk164 v p.name hl).call trivial;have hbd := ixF_bd (q := fun f => f.name == p.name) (l := v.fields);change -1 ≤ ixN p.name v.fields ∧ ixN p.name v.fields < v.fields.length at hbd;generalize hT : ledP p v = T;unfold ledP at hT;rw [encV_eq] at c164;rw [encV_eq];simp only [encP];simp only [go_sem, ir84, simprocAttr];apply ik <;> intro h
 ·rw [if_pos h] at hT;refine wc c164 ?_;generalize ixN p.name v.fields = k at *;apply ik <;> intro h2
  ·simp only [decide_eq_true_eq] at h2;rw [if_pos h2] at hT;have hk : k.toNat < v.fields.length := oM;have hx := nth_encF hk;have hd : 0 ≤ k ∧ k < (v.fields.length : Int) := ⟨h2, hbd.2⟩;rw [List.getElem?_eq_getElem hk] at hT;simp only [Option.map_some, Option.getD_some] at hT;rw [← hT];simp only [go_sem, hx, List.length_map, List.map_cons, List.map_nil, encV_eq, simprocAttr];refine ⟨hd, fun x hx => ?_⟩;rcases List.mem_singleton.1 hx with rfl
   rfl
  ·simp only [decide_eq_false_iff_not] at h2;rw [if_neg h2] at hT;rw [← hT];rfl
 rw [if_neg (nF h)] at hT;refine sq ((p.kind == 4) && (v.text == p.name)) ?_ ?_
 ·refine zz ?_;refine sq (v.text == p.name) ?_ ?_
  ·exact zz trivial
  exact zz trivial
 refine zz ?_;apply ik <;> intro h2
 ·rw [if_pos h2] at hT;rw [← hT]
 rw [if_neg (nF h2)] at hT
 try refine zz ?_
 refine sq (decide (p.index < ((v.list.length : Nat) : Int))) ?_ ?_
 ·exact zz7 trivial
 refine zz ?_;apply ik <;> intro h3
 ·rw [if_pos h3] at hT;simp only [Bool.and_eq_true, decide_eq_true_eq] at h3;have hw : IntKind.i64.wrap (p.index + 1) = p.index + 1 := wrap64 oM oM;have ht : (p.index + 1 - p.index).toNat = 1 := oM;rw [← hT];simp only [go_sem, hw, ht, List.map_take, List.map_drop, List.length_map, simprocAttr];refine ⟨⟨hi, oM, oM⟩, ?_⟩;rw [← List.map_drop, ← List.map_take, canonL_vals]
 ·rw [if_neg (nF h3)] at hT;rw [← hT];rfl
def txtP (p : Part) : Str := if p.kind == 1 then [46] ++ p.name else if p.kind == 2 then ([91] ++ Lib.itoa p.index) ++ [93] else if p.kind == 3 then [91, 42, 93] else [63] ++ p.name
theorem walk159 (p : Part) (hp : p.name.length ≤ 1000) (h0 : -9223372036854775808 ≤ p.index) (h1 : p.index ≤ 9223372036854775807) : PT 159 [encP p] (.d (.str (txtP p))) := by
 refine ok159.pc ?_;have c100 := call100 p.index h0 h1;have hil := Lib.itoa_length_le p.index h0 h1;simp only [encP, txtP];simp only [go_sem, ir159, simprocAttr];apply ik <;> intro h
 ·simp only [h, ↓reduceIte, List.length_append, List.length_cons, List.length_nil];exact ⟨oM, trivial⟩
 simp only [h, Bool.false_eq_true, ↓reduceIte]
 try refine zz ?_
 apply ik <;> intro h2
 ·simp only [h2, ↓reduceIte];refine wn c100 ?_;simp only [go_sem, List.length_append, List.length_cons, List.length_nil, simprocAttr]
  try exact ⟨oM, oM⟩
  try omega
 simp only [h2, Bool.false_eq_true, ↓reduceIte]
 try refine zz ?_
 apply ik <;> intro h3
 ·simp only [h3, ↓reduceIte]
 simp only [h3, Bool.false_eq_true, ↓reduceIte, List.length_append, List.length_cons, List.length_nil];exact ⟨oM, trivial⟩
theorem nameS_len {s : Str} (h : nameS s = true) : s.length ≤ 32 := by
 simp only [nameS, Bool.and_eq_true, Bool.not_eq_true', Bool.or_eq_false_iff, decide_eq_false_iff_not] at h;omega
theorem validP_bd {p : Part} (h : validP p = true) : p.name.length ≤ 32 ∧ 0 ≤ p.index ∧ p.index ≤ 255 := by
 unfold validP at h;split at h
 ·simp only [Bool.and_eq_true, beq_iff_eq] at h;exact ⟨nameS_len h.2, oM, oM⟩
 split at h
 ·simp only [Bool.and_eq_true, beq_iff_eq, decide_eq_true_eq] at h;refine ⟨by rw [h.1.1]; simp, oM, oM⟩
 split at h
 ·simp only [Bool.and_eq_true, beq_iff_eq] at h;exact ⟨by rw [h.1]; simp, oM, oM⟩
 ·cases h
theorem txtP_len {p : Part} (h : validP p = true) : (txtP p).length ≤ 40 := by
 obtain ⟨h1, h2, h3⟩ := validP_bd h;have := Lib.itoa_length_le p.index oM oM;unfold txtP;split
 ·simp; omega
 split
 ·simp; omega
 split
 ·simp
 ·simp; omega
def szP (l : List Part) : Int := l.foldl (fun n p => n + ((txtP p).length : Int)) (-1)
def hdP (l : List Part) : Bool := (decide ((l.length : Int) < 1) || decide ((l.length : Int) > 16)) || ((l[0]?.map Part.kind).getD 0 != 1)
def chkP (l : List Part) : Int := if hdP l then 3 else if l.all validP && decide (szP l ≤ 200) then 0 else 3
theorem szP_take {l : List Part} {k : Nat} (h : k < l.length) : szP (l.take (k + 1)) = szP (l.take k) + ((txtP l[k]).length : Int) := by
 rw [List.take_succ_eq_append_getElem h];unfold szP;rw [List.foldl_append];rfl
theorem szP_bd {l : List Part} : ∀ {k : Nat}, k ≤ l.length → (∀ (j : Nat) (h : j < l.length), j < k → validP l[j] = true) → -1 ≤ szP (l.take k) ∧ szP (l.take k) ≤ 40 * k
 | 0, _, _ => by simp [szP]
 | k + 1, hk, hv => by
  obtain ⟨h1, h2⟩ := szP_bd (k := k) oM (fun j h hj => hv j h oM);have := txtP_len (hv k oM oM);rw [szP_take oM]
  push_cast
  omega
theorem walk78 (l : List Part) (hl : l.length ≤ 68719476736) (hn : ∀ p ∈ l, p.name.length ≤ 68719476736) : PT 78 [.list 3 (l.map encP)] (.d (.int .i64 (chkP l))) := by
 refine ok78.pc ?_;generalize hT : chkP l = T;unfold chkP at hT;simp only [go_sem, ir78, List.length_map, simprocAttr];refine sq (decide ((l.length : Int) > 16)) ?_ ?_
 ·exact zz7 trivial
 refine zz ?_;refine scQ_pure ((l[0]?.map Part.kind).getD 0 != 1) (fun hq => ?_) ?_
 ·simp only [Bool.or_eq_false_iff, decide_eq_false_iff_not] at hq;have h0 : 0 < l.length := oM;have hx := nth_encP (xs := l) h0;have e0 : Int.toNat 0 = 0 := rfl;have e1 : (l[0]?.map Part.kind).getD 0 = l[0].kind := by rw [List.getElem?_eq_getElem h0]; rfl
  simp only [go_sem, e0, e1, hx, List.length_map, simprocAttr]
  try exact ⟨oM, sP⟩
  try omega
 refine zz ?_;have hh : hdP l = ((decide ((l.length : Int) < 1) || decide ((l.length : Int) > 16)) || ((l[0]?.map Part.kind).getD 0 != 1)) := rfl;rw [← hh];apply ik <;> intro h
 ·rw [if_pos h] at hT;rw [← hT]
 rw [if_neg (nF h)] at hT;have hl16 : l.length ≤ 16 := by
  simp only [hdP, Bool.or_eq_false_iff, decide_eq_false_iff_not] at h;omega
 try refine zz7 ?_
 refine wpc_loop (fun n s => ∃ k : Nat, k ≤ l.length ∧ n = l.length - k ∧ (∀ (j : Nat) (h1 : j < l.length), j < k → validP l[j] = true) ∧
  s = ⟨[(3, .d (.int .i64 (szP (l.take k)))), (21, .d (.list 3 (l.map encP))), (22, .d (.int .i64 l.length)), (23, .d (.int .i64 k))], []⟩) ?_ ?_
 ·exact ⟨_, _, Wk.refl _, 0, Nat.zero_le _, rfl, sP, rfl⟩
 ·rintro n s ⟨k, hk, rfl, hinv, rfl⟩;by_cases hlt : k < l.length
  ·have hx := nth_encP hlt;have hd := dT hlt;have hc := (walk74 l[k] (hn _ (List.getElem_mem hlt))).call trivial;simp only [encP] at hc;refine zz8 ?_;refine ⟨oM, wn hc ?_⟩;refine zz ?_;apply ik <;> intro hf
   ·simp only [Bool.not_eq_true'] at hf;have : l.all validP = false := by
     rw [List.all_eq_false];exact ⟨_, List.getElem_mem hlt, by rw [hf]; decide⟩
    rw [this, Bool.false_and, if_neg Bool.false_ne_true] at hT;rw [← hT]
   ·simp only [Bool.not_eq_false'] at hf;obtain ⟨b1, b2, b3⟩ := validP_bd hf;have ht := (walk159 l[k] oM oM oM).call trivial;have htl := txtP_len hf;obtain ⟨s1, s2⟩ := szP_bd (k := k) hk hinv;simp only [encP] at ht
    try refine zz ?_
    refine wc ht ?_;refine ⟨l.length - (k + 1), _, oM, Wk.less ?_, k + 1, oM, rfl, ?_, rfl⟩
    ·have hw : IntKind.i64.wrap (szP (l.take k) + ((txtP l[k]).length : Int)) = szP (l.take k) + ((txtP l[k]).length : Int) := wrap64 oM oM;simp only [go_sem, hw, szP_take hlt, wrap64s k oM, simprocAttr]
    ·intro j h1 hj;by_cases e : j = k
     ·subst e; exact hf
     ·exact hinv j h1 oM
  ·have hd := dF hlt;obtain rfl : k = l.length := oM;have hall : l.all validP = true := by
    rw [List.all_eq_true];intro x hx;obtain ⟨j, hj, rfl⟩ := List.getElem_of_mem hx;exact hinv j hj hj
   rw [hall, Bool.true_and] at hT;refine zz28 ?_;apply ik <;> intro h2
   ·simp only [decide_eq_true_eq] at h2;rw [if_neg sO] at hT;rw [← hT]
   ·simp only [decide_eq_false_iff_not] at h2;rw [if_pos sO] at hT;rw [← hT]
mutual
def szV : Val → Nat
 | .mk _ _ _ _ l f => 1 + szVs l + szFs f
def szVs : List Val → Nat
 | [] => 0
 | v :: r => szV v + szVs r
def szFs : List Fld → Nat
 | [] => 0
 | .mk _ v :: r => szV v + szFs r
end
theorem szV_eq (v : Val) : szV v = 1 + szVs v.list + szFs v.fields := by cases v; rfl
theorem szV_pos (v : Val) : 1 ≤ szV v := by rw [szV_eq]; omega
theorem szVs_append : ∀ a b : List Val, szVs (a ++ b) = szVs a + szVs b
 | [], b => by simp [szVs]
 | v :: r, b => by simp only [List.cons_append, szVs, szVs_append r b]; omega
theorem szVs_len : ∀ l : List Val, l.length ≤ szVs l
 | [] => by simp [szVs]
 | v :: r => by
  have := szVs_len r;have := szV_pos v;simp only [List.length_cons, szVs]; omega
theorem szFs_len : ∀ l : List Fld, l.length ≤ szFs l
 | [] => by simp [szFs]
 | .mk _ v :: r => by
  have := szFs_len r;have := szV_pos v;simp only [List.length_cons, szFs]; omega
theorem szVs_mem : ∀ {l : List Val} {x : Val}, x ∈ l → szV x ≤ szVs l
 | v :: r, x, h => by
  rcases List.mem_cons.1 h with rfl | h
  ·simp only [szVs]; omega
  ·have := szVs_mem h;simp only [szVs]; omega
theorem szFs_mem : ∀ {l : List Fld} {x : Fld}, x ∈ l → szV x.value ≤ szFs l
 | .mk n v :: r, x, h => by
  rcases List.mem_cons.1 h with rfl | h
  ·show szV v ≤ _;simp only [szFs]; omega
  ·have := szFs_mem h;simp only [szFs]; omega
theorem szVs_sub : ∀ {a b : List Val}, a.Sublist b → szVs a ≤ szVs b
 | _, _, .slnil => Nat.le_refl _
 | _, _, .cons x h => by have := szVs_sub h; simp only [szVs]; omega
 | _, _, .cons_cons x h => by have := szVs_sub h; simp only [szVs]; omega
mutual
theorem okV_sz : ∀ (v : Val), szV v ≤ 68719476736 → okV v
 | .mk _ _ _ _ l f, h => by
  simp only [szV] at h;have h1 := szVs_len l;have h2 := szFs_len f;simp only [okV];exact ⟨oM, oM, okVs_sz l oM, okFs_sz f oM⟩
theorem okVs_sz : ∀ (l : List Val), szVs l ≤ 68719476736 → okVs l
 | [], _ => by simp [okVs]
 | v :: r, h => by
  simp only [szVs] at h;simp only [okVs];exact ⟨okV_sz v oM, okVs_sz r oM⟩
theorem okFs_sz : ∀ (l : List Fld), szFs l ≤ 68719476736 → okFs l
 | [], _ => by simp [okFs]
 | .mk _ v :: r, h => by
  simp only [szFs] at h;simp only [okFs, okF];exact ⟨okV_sz v oM, okFs_sz r oM⟩
end
theorem szVs_led (p : Part) (v : Val) : szVs (ledP p v) ≤ szV v := by
 rw [szV_eq];unfold ledP;split
 ·split
  ·rename_i h;have hbd := ixF_bd (q := fun f => f.name == p.name) (l := v.fields);change -1 ≤ ixN p.name v.fields ∧ ixN p.name v.fields < v.fields.length at hbd;have hk : (ixN p.name v.fields).toNat < v.fields.length := oM;rw [List.getElem?_eq_getElem hk];have := szFs_mem (List.getElem_mem hk);simp only [Option.map_some, Option.getD_some, szVs];omega
  ·simp [szVs]
 split
 ·omega
 split
 ·have := szVs_sub ((List.take_sublist 1 (v.list.drop p.index.toNat)).trans (List.drop_sublist _ _));omega
 ·simp [szVs]
theorem szVs_leds (p : Part) : ∀ l : List Val, szVs (l.flatMap (ledP p)) ≤ szVs l
 | [] => by simp [szVs]
 | v :: r => by
  have := szVs_leds p r;have := szVs_led p v;rw [List.flatMap_cons, szVs_append];simp only [szVs];omega
def evP (l : List Part) : Bool := l.any fun p => p.kind == 3
def walkN : List Part → List Val → Option (List Val)
 | [], now => some now
 | p :: r, now => if now.all (appP p) then walkN r (now.flatMap (ledP p)) else none
def findR (l : List Part) : Option (List Val) → List Val × Int
 | none => ([], 22)
 | some now => if (((now.length : Nat) : Int) == 0) && !evP l then ([], 19) else (now, 0)
def findV (v : Val) (l : List Part) : List Val × Int := if chkP l != 0 then ([], chkP l) else findR l (walkN l [v])
theorem walkN_sz : ∀ (l : List Part) {now out : List Val}, walkN l now = some out → szVs out ≤ szVs now
 | [], now, out, h => by cases h; exact Nat.le_refl _
 | p :: r, now, out, h => by
  simp only [walkN] at h;split at h
  ·have := walkN_sz r h;have := szVs_leds p now;omega
  ·cases h
theorem chkP_ok {l : List Part} (h : (chkP l != 0) = false) : l.length ≤ 16 ∧ ∀ p ∈ l, validP p = true := by
 simp only [bne_eq_false_iff_eq] at h;unfold chkP at h;split at h
 ·cases h
 rename_i hh;split at h
 ·rename_i h2;simp only [Bool.and_eq_true, List.all_eq_true] at h2;simp only [hdP, Bool.or_eq_true, decide_eq_true_eq, not_or] at hh;exact ⟨oM, h2.1⟩
 ·cases h
theorem take_flat (p : Part) {now : List Val} {j : Nat} (h : j < now.length) : (now.take (j + 1)).flatMap (ledP p) = (now.take j).flatMap (ledP p) ++ ledP p now[j] := by
 rw [List.take_succ_eq_append_getElem h, List.flatMap_append];simp
theorem szVs_take (p : Part) (now : List Val) (j : Nat) : szVs ((now.take j).flatMap (ledP p)) ≤ szVs now := by
 have := szVs_leds p (now.take j);have := szVs_sub (List.take_sublist j now);omega
theorem walk76 (v : Val) (l : List Part) (hl : l.length ≤ 68719476736) (hn : ∀ p ∈ l, p.name.length ≤ 68719476736) (hsz : szV v ≤ 2000000) (c77 : CT 77 [.d (.list 3 (l.map encP))] [] (.d (.bool (evP l))) []) :
  PT 76 [encV v, .list 3 (l.map encP)] (.tup [.d (.list 6 ((findV v l).1.map encV)), .d (.int .i64 (findV v l).2)]) := by
 refine ok76.pc ?_;have c78 := (walk78 l hl hn).call trivial;generalize hT : findV v l = T;unfold findV at hT;rw [encV_eq];simp only [go_sem, ir76, Nat.reduceAdd, Nat.reduceEqDiff, Nat.reduceBEq, Nat.reduceLeDiff, reduceCtorEq, ↓reduceIte];refine wc c78 ?_;apply ik <;> intro h
 ·rw [if_pos h] at hT;rw [← hT];rfl
 rw [if_neg (nF h)] at hT;obtain ⟨hl16, hval⟩ := chkP_ok h;clear h
 try refine zz7 ?_
 refine ⟨(by intro x hx; rcases List.mem_singleton.1 hx with rfl; rfl), ?_⟩;refine wpc_loop (fun n s => ∃ (k : Nat) (now : List Val), k ≤ l.length ∧ n = l.length - k ∧ szVs now ≤ 2000000 ∧ walkN l [v] = walkN (l.drop k) now ∧
  s = ⟨[(1, .d (.list 3 (l.map encP))), (7, .d (.list 6 (now.map encV))), (23, .d (.list 3 (l.map encP))), (24, .d (.int .i64 l.length)), (25, .d (.int .i64 k))], []⟩) ?_ ?_
 ·refine ⟨_, _, Wk.less ?_, 0, [v], Nat.zero_le _, rfl, by simpa [szVs] using hsz, rfl, rfl⟩;simp only [go_sem, encV_eq v, List.map_cons, List.map_nil, Nat.reduceAdd, Nat.reduceEqDiff, Nat.reduceBEq, Nat.reduceLeDiff, reduceCtorEq, ↓reduceIte];exact rfl
 ·rintro n s ⟨k, now, hk, rfl, hnz, hwk, rfl⟩;have hnl := szVs_len now;by_cases hlt : k < l.length
  ·have hx := nth_encP hlt;have hd := dT hlt;refine zz8 ?_;have hcons : l.drop k = l[k] :: l.drop (k + 1) := List.drop_eq_getElem_cons hlt;generalize hp : l[k] = p at *;have hpv : validP p = true := hval p (by rw [← hp]; exact List.getElem_mem hlt);obtain ⟨_, hpi, _⟩ := validP_bd hpv;refine ⟨oM, ?_⟩;refine wpc_loop (fun n s => ∃ j : Nat, j ≤ now.length ∧ n = now.length - j ∧ (∀ (i : Nat) (h : i < now.length), i < j → appP p now[i] = true) ∧
    s = ⟨[(1, .d (.list 3 (l.map encP))), (23, .d (.list 3 (l.map encP))), (24, .d (.int .i64 l.length)), (25, .d (.int .i64 k)), (9, .ref 9 0), (10, .ms 43 j), (29, .d (.list 6 (now.map encV))), (30, .d (.int .i64 now.length)), (31, .d (.int .i64 j))],
     [(9, .box [.d (.int .i64 p.kind), .d (.int .i64 p.index), .d (.str p.name)]), (43, .row j 6 (((now.take j).flatMap (ledP p)).map encV))]⟩) ?_ ?_
   ·refine ⟨_, _, (Wk.nilT 10 43 6 rfl rfl dC).trans (Wk.less ?_), 0, Nat.zero_le _, rfl, (by intro i h hi; omega), rfl⟩;simp only [go_sem, List.take_zero, List.flatMap_nil, List.map_nil, List.length_map, Nat.reduceAdd, Nat.reduceEqDiff, Nat.reduceBEq, Nat.reduceLeDiff, reduceCtorEq, ↓reduceIte]
    try exact rfl
   ·rintro n s ⟨j, hj, rfl, hinv, rfl⟩;by_cases hjl : j < now.length
    ·have hx2 := nth_encV hjl;have hd2 : decide ((j : Int) < (now.length : Int)) = true := sO;have hm := szVs_mem (List.getElem_mem hjl);have hszx : szV now[j] ≤ 2000000 := oM;rw [szV_eq] at hszx;have b1 := szVs_len now[j].list;have b2 := szFs_len now[j].fields;have c156 := (walk156 p now[j]).call trivial;have c84 := (walk84 p now[j] oM oM hpi).call trivial;have hled := szVs_len (ledP p now[j]);have hled2 := szVs_led p now[j];have hacc := szVs_len ((now.take j).flatMap (ledP p));have hacc2 := szVs_take p now j;simp only [encP] at c156 c84;rw [encV_eq] at c156 c84;refine zz72 ?_;refine ⟨oM, wn c156 ?_⟩;refine zz ?_;apply ik <;> intro hf
     ·simp only [Bool.not_eq_true'] at hf;have : now.all (appP p) = false := by
       rw [List.all_eq_false];exact ⟨_, List.getElem_mem hjl, by rw [hf]; decide⟩
      rw [hwk, hcons] at hT;simp only [walkN, this, Bool.false_eq_true, ↓reduceIte, findR] at hT;rw [← hT];rfl
     ·simp only [Bool.not_eq_false'] at hf
      try refine zz ?_
      refine wn c84 ?_;refine zz7 ?_;refine ⟨oM, now.length - (j + 1), _, oM, Wk.less ?_, j + 1, oM, rfl, ?_, rfl⟩
      ·rw [take_flat p hjl, List.map_append];simp only [go_sem, wrap64s j oM, Nat.reduceAdd, Nat.reduceEqDiff, Nat.reduceBEq, Nat.reduceLeDiff, reduceCtorEq, ↓reduceIte]
      ·intro i h1 hi;by_cases e : i = j
       ·subst e; exact hf
       ·exact hinv i h1 oM
    ·have hd2 : decide ((j : Int) < (now.length : Int)) = false := sO;obtain rfl : j = now.length := oM;have hall : now.all (appP p) = true := by
      rw [List.all_eq_true];intro x hx;obtain ⟨i, hi, rfl⟩ := List.getElem_of_mem hx;exact hinv i hi hi
     refine zz73 ?_;refine ⟨l.length - (k + 1), _, oM, (Wk.frzT 7 43 now.length 6 ((now.flatMap (ledP p)).map encV) rfl rfl).trans (Wk.less ?_), k + 1, now.flatMap (ledP p), oM, rfl, ?_, ?_, rfl⟩
     ·exact zz10 trivial
     ·have := szVs_leds p now; omega
     ·rw [hwk, hcons];simp only [walkN, hall, ↓reduceIte]
  ·have hd := dF hlt;obtain rfl : k = l.length := oM;rw [List.drop_length] at hwk;simp only [walkN] at hwk;rw [hwk] at hT;simp only [findR] at hT;refine zz74 ?_;refine sq (!evP l) ?_ ?_
   ·refine zz ?_;refine wc c77 trivial
   refine zz ?_;apply ik <;> intro h
   ·rw [if_pos h] at hT;rw [← hT];rfl
   rw [if_neg (nF h)] at hT;rw [← hT]
   try refine zz7 ?_
   refine wpc_loop (fun n s => ∃ j : Nat, j ≤ now.length ∧ n = now.length - j ∧
    s = ⟨[(13, .ms 65 j), (55, .d (.list 6 (now.map encV))), (56, .d (.int .i64 now.length)), (57, .d (.int .i64 j))], [(65, .row j 6 ((now.take j).map encV))]⟩) ?_ ?_
   ·refine ⟨_, _, (Wk.nilT 13 65 6 rfl rfl dC).trans (Wk.less ?_), 0, Nat.zero_le _, rfl, rfl⟩;refine zz75 ?_;exact zf
   ·rintro n s ⟨j, hj, rfl, rfl⟩;by_cases hjl : j < now.length
    ·have hx2 := nth_encV hjl;have hd2 : decide ((j : Int) < (now.length : Int)) = true := sO;have hm := szVs_mem (List.getElem_mem hjl);have c54 := (walk54 now[j] (okV_sz _ oM)).call trivial;rw [encV_eq] at c54;refine zz72 ?_;refine ⟨oM, wn c54 ?_⟩;refine zz76 ?_;refine ⟨(by intro x hx; rcases List.mem_singleton.1 hx with rfl; rfl), oM, now.length - (j + 1), _, oM, Wk.less ?_, j + 1, oM, rfl, rfl⟩;rw [List.take_succ_eq_append_getElem hjl, List.map_append];simp only [go_sem, wrap64s j oM, List.map_cons, List.map_nil, encV_eq now[j], Nat.reduceAdd, Nat.reduceEqDiff, Nat.reduceBEq, Nat.reduceLeDiff, reduceCtorEq, ↓reduceIte]
    ·have hd2 : decide ((j : Int) < (now.length : Int)) = false := sO;obtain rfl : j = now.length := oM;exact zz73 trivial
end Go.Proofs
namespace Go.Proofs
open Go Av
open Go.Proofs.YtiekiedlkehccaaGreatDoor.Rows (uptoBulk uptoBulkAll)
theorem c3 : Tryz.prog.cellsOf 3 = 1 := kR
theorem c9 : Tryz.prog.cellsOf 9 = 1 := kR
theorem c31 : Tryz.prog.cellsOf 27 = 1 := kR
theorem c27 : Tryz.prog.cellsOf 28 = 1 := kR
theorem cOLD44 : Tryz.prog.cellsOf 71 = 1 := kR
theorem c266 : Tryz.prog.cellsOf 93 = 1 := kR
theorem c19 : Tryz.prog.cellsOf 30 = 6 := kR
theorem c106 : Tryz.prog.cellsOf 113 = 7 := kR
theorem c35 : Tryz.prog.cellsOf 73 = 5 := kR
theorem okVs_of : ∀ {l : List Val}, (∀ a ∈ l, okV a) → okVs l
 | [], _ => by simp [okVs]
 | v :: r, h => by simp only [okVs]; exact ⟨h v List.mem_cons_self, okVs_of fun a ha => h a (List.mem_cons_of_mem _ ha)⟩
theorem okFs_of : ∀ {l : List Fld}, (∀ a ∈ l, okF a) → okFs l
 | [], _ => by simp [okFs]
 | v :: r, h => by simp only [okFs]; exact ⟨h v List.mem_cons_self, okFs_of fun a ha => h a (List.mem_cons_of_mem _ ha)⟩
theorem okNs_of : ∀ {l : List Exp}, (∀ a ∈ l, okN a) → okNs l
 | [], _ => by simp [okNs]
 | v :: r, h => by simp only [okNs]; exact ⟨h v List.mem_cons_self, okNs_of fun a ha => h a (List.mem_cons_of_mem _ ha)⟩
theorem okEs_of : ∀ {l : List Exp}, (∀ a ∈ l, okE a) → okEs l
 | [], _ => by simp [okEs]
 | v :: r, h => by simp only [okEs]; exact ⟨h v List.mem_cons_self, okEs_of fun a ha => h a (List.mem_cons_of_mem _ ha)⟩
section
variable {H : Type} {enc : TypeId × Value → H} {w : World} {base : Nat} {spare : Nat → Bool} {held : Bool}
theorem fld {fs : Array Field} {n : Nat} {cs : List Value} {xs : List (DataW H × List MemPlace)}
  (hf : ∀ (i : Nat) (f : Field), fs[i]? = some f → DataW.trod enc Tryz.prog w base spare held n f.type ((cs.drop f.offset).take (Tryz.prog.cellsOf f.type)) = xs[i]?)
  (i : Nat) (t off : Nat) {k : Nat} (hi : (fs[i]?).map (fun f => (f.type, f.offset)) = some (t, off)) (hc : Tryz.prog.cellsOf t = k) : DataW.trod enc Tryz.prog w base spare held n t ((cs.drop off).take k) = xs[i]? := by
 cases e : fs[i]? with
 | none => rw [e] at hi; cases hi
 | some f =>
  rw [e] at hi;simp only [Option.map_some, Option.some.injEq, Prod.mk.injEq] at hi;have := hf i f e;rw [hi.1, hi.2, hc] at this;exact this
theorem encV_len (a : Val) : (encV a).cells.length = 6 := by rw [encV_eq]; rfl
theorem encF_len (a : Fld) : (encF a).cells.length = 7 := by rw [encF_eq]; rfl
theorem encE_len (a : Exp) : (encE a).cells.length = 5 := by rw [encE_eq]; rfl
theorem szVs_sum : ∀ l : List Val, szVs l = (l.map szV).sum
 | [] => rfl
 | v :: r => by simp only [szVs, List.map_cons, List.sum_cons, szVs_sum r]
theorem szFs_sum : ∀ l : List Fld, szFs l = (l.map fun f => szV f.value).sum
 | [] => rfl
 | .mk n v :: r => by simp only [szFs, List.map_cons, List.sum_cons, szFs_sum r]; rfl
theorem read_val (fuel : Nat) : ∀ (cs : List Value) (x : DataW H × List MemPlace), DataW.trod enc Tryz.prog w base spare held fuel 30 cs = some x → uptoBulk x.1 ≤ 1048576 → ∃ a : Val, (okV a ∧ szV a ≤ uptoBulk x.1) ∧ CR (old w) w (encV a).cells cs := by
 induction fuel using Nat.strongRecOn with
 | _ fuel ih =>
  intro cs x h hb;obtain ⟨xs, n, rfl, rfl, hl, hlen, hf⟩ := DataW.trod_struct Tryz.underlying30 h;rw [c19] at hl;have h0 := fld hf 0 3 0 rfl c3;have h1 := fld hf 1 3 1 rfl c3;have h2 := fld hf 2 3 2 rfl c3;have h3 := fld hf 3 9 3 rfl c9;have h4 := fld hf 4 27 4 rfl c31;have h5 := fld hf 5 28 5 rfl c27
  match xs, hlen, cs, hl with
  | [y0, y1, y2, y3, y4, y5], _, [a0, a1, a2, a3, a4, a5], _ =>
   simp only [List.map_cons, List.map_nil, uptoBulk, uptoBulkAll] at hb;obtain ⟨k, g0⟩ := cr_int Tryz.underlying3 (show DataW.trod enc Tryz.prog w base spare held n 3 [a0] = some y0 from h0);obtain ⟨i, g1⟩ := cr_int Tryz.underlying3 (show DataW.trod enc Tryz.prog w base spare held n 3 [a1] = some y1 from h1);obtain ⟨s, g2⟩ := cr_int Tryz.underlying3 (show DataW.trod enc Tryz.prog w base spare held n 3 [a2] = some y2 from h2);obtain ⟨t, _, g3⟩ := cr_str Tryz.underlying9 (show DataW.trod enc Tryz.prog w base spare held n 9 [a3] = some y3 from h3) oM;obtain ⟨l, e4, o4, z4, g4⟩ := cr_sliceM (encA := encV) (ok := okV) (m := szV) Tryz.underlying27 c19 dC encV_len (show DataW.trod enc Tryz.prog w base spare held n 27 [a4] = some y4 from h4) oM
    (fun m cs' y hm hy hyb => ih m oM cs' y hy hyb)
   obtain ⟨f, e5, o5, z5, g5⟩ := cr_sliceM (encA := encF) (ok := okF) (m := fun f => szV f.value) Tryz.underlying28 c106 dC encF_len (show DataW.trod enc Tryz.prog w base spare held n 28 [a5] = some y5 from h5) oM
    (fun m cs' y hm hy hyb => by
     obtain ⟨xs, m', rfl, rfl, hl, hlen, hf⟩ := DataW.trod_struct Tryz.underlying113 hy;rw [c106] at hl;have h0 := fld hf 0 9 0 rfl c9;have h1 := fld hf 1 30 1 rfl c19
     match xs, hlen, cs', hl with
     | [y0, y1], _, [a0, a1, a2, a3, a4, a5, a6], _ =>
      simp only [List.map_cons, List.map_nil, uptoBulk, uptoBulkAll] at hyb;obtain ⟨nm, _, g0⟩ := cr_str Tryz.underlying9 (show DataW.trod enc Tryz.prog w base spare held m' 9 [a0] = some y0 from h0) oM;obtain ⟨v, ov, g1⟩ := ih m' oM [a1, a2, a3, a4, a5, a6] y1 h1 oM;refine ⟨.mk nm v, ⟨by simpa only [okF] using ov.1, by show szV v ≤ _; have := ov.2; simp only [List.map_cons, List.map_nil, uptoBulk, uptoBulkAll]; omega⟩, ?_⟩;have := g0.append g1;simpa only [encF, Dat.cells, List.singleton_append] using this)
   refine ⟨.mk k i s t l f, ⟨by simp only [okV]; exact ⟨oM, oM, okVs_of o4, okFs_of o5⟩, ?_⟩, ?_⟩
   ·simp only [szV, szVs_sum l, szFs_sum f, List.map_cons, List.map_nil, uptoBulk, uptoBulkAll];have := bulk_one y0.1;omega
   have := g0.append (g1.append (g2.append (g3.append (g4.append g5))));simpa only [encV_eq, Val.kind, Val.int, Val.scale, Val.text, Val.list, Val.fields, Dat.cells, List.singleton_append, List.cons_append, List.nil_append] using this
theorem read_exp (fuel : Nat) : ∀ (cs : List Value) (x : DataW H × List MemPlace), DataW.trod enc Tryz.prog w base spare held fuel 73 cs = some x → uptoBulk x.1 ≤ 1048576 → ∃ a : Exp, (okE a ∧ okN a) ∧ CR (old w) w (encE a).cells cs := by
 induction fuel using Nat.strongRecOn with
 | _ fuel ih =>
  intro cs x h hb;obtain ⟨xs, n, rfl, rfl, hl, hlen, hf⟩ := DataW.trod_struct Tryz.underlying73 h;rw [c35] at hl;have h0 := fld hf 0 3 0 rfl c3;have h1 := fld hf 1 3 1 rfl c3;have h2 := fld hf 2 9 2 rfl c9;have h3 := fld hf 3 27 3 rfl c31;have h4 := fld hf 4 71 4 rfl cOLD44
  match xs, hlen, cs, hl with
  | [y0, y1, y2, y3, y4], _, [a0, a1, a2, a3, a4], _ =>
   simp only [List.map_cons, List.map_nil, uptoBulk, uptoBulkAll] at hb;obtain ⟨o, g0⟩ := cr_int Tryz.underlying3 (show DataW.trod enc Tryz.prog w base spare held n 3 [a0] = some y0 from h0);obtain ⟨i, g1⟩ := cr_int Tryz.underlying3 (show DataW.trod enc Tryz.prog w base spare held n 3 [a1] = some y1 from h1);obtain ⟨t, _, g2⟩ := cr_str Tryz.underlying9 (show DataW.trod enc Tryz.prog w base spare held n 9 [a2] = some y2 from h2) oM;obtain ⟨v, e3, o3, g3⟩ := cr_slice (encA := encV) (ok := okV) Tryz.underlying27 c19 dC encV_len (show DataW.trod enc Tryz.prog w base spare held n 27 [a3] = some y3 from h3) oM
    (fun m cs' y _ hy hyb => by obtain ⟨a, h1, h2⟩ := read_val m cs' y hy hyb; exact ⟨a, h1.1, h2⟩)
   obtain ⟨l, e4, o4, g4⟩ := cr_slice (encA := encE) (ok := fun a => okE a ∧ okN a) Tryz.underlying71 c35 dC encE_len (show DataW.trod enc Tryz.prog w base spare held n 71 [a4] = some y4 from h4) oM
    (fun m cs' y hm hy hyb => ih m oM cs' y hy hyb)
   refine ⟨.mk o i t v l, ⟨by simp only [okE]; exact ⟨oM, oM, okVs_of o3, okEs_of fun a ha => (o4 a ha).1⟩, by simp only [okN]; exact ⟨oM, okNs_of fun a ha => (o4 a ha).2⟩⟩, ?_⟩;have := g0.append (g1.append (g2.append (g3.append g4)));simpa only [encE_eq, Exp.op, Exp.int, Exp.text, Exp.value, Exp.args, Dat.cells, List.singleton_append, List.cons_append, List.nil_append] using this
end
end Go.Proofs
namespace Go.Proofs
open Go.Shelf
def Tryz.laysValid_ren : Go.Shelf.Ren := ⟨fun | 196 => 173 | 259 => 240 | n => n, fun | 9 => 9 | 4 => 4 | 3 => 3 | 5 => 5 | 12 => 12 | 119 => 305 | 0 => 0 | 46 => 257 | 139 => 308 | 138 => 307 | 53 => 320 | n => n, fun | 3 => 0 | 4 => 1 | n => n⟩
theorem Tryz.laysValid : Go.Proofs.Lays.n196 Tryz.prog Tryz.laysValid_ren := {
 mixed := kR
 f196 := Tryz.func173.trans (congrArg some kR)
 f259 := Tryz.func240.trans (congrArg some kR)
 t0 := Tryz.underlying0
 a0 := Tryz.isAgg0
 z0 := Tryz.sizeOf0
 v0 := Tryz.zeroValue0
 t3 := Tryz.underlying3
 a3 := Tryz.isAgg3
 z3 := Tryz.sizeOf3
 v3 := Tryz.zeroValue3
 t4 := Tryz.underlying4
 a4 := Tryz.isAgg4
 z4 := Tryz.sizeOf4
 v4 := Tryz.zeroValue4
 t5 := Tryz.underlying5
 a5 := Tryz.isAgg5
 z5 := Tryz.sizeOf5
 v5 := Tryz.zeroValue5
 t9 := Tryz.underlying9
 a9 := Tryz.isAgg9
 z9 := Tryz.sizeOf9
 v9 := Tryz.zeroValue9
 t12 := Tryz.underlying12
 a12 := Tryz.isAgg12
 z12 := Tryz.sizeOf12
 v12 := Tryz.zeroValue12
 t46 := Tryz.underlying257
 a46 := Tryz.isAgg257
 z46 := Tryz.sizeOf257
 v46 := Tryz.zeroValue257
 t53 := Tryz.underlying320
 a53 := Tryz.isAgg320
 z53 := Tryz.sizeOf320
 v53 := Tryz.zeroValue320
 t119 := Tryz.underlying305
 a119 := Tryz.isAgg305
 z119 := Tryz.sizeOf305
 t138 := Tryz.underlying307
 a138 := Tryz.isAgg307
 z138 := Tryz.sizeOf307
 v138 := Tryz.zeroValue307
 t139 := Tryz.underlying308
 a139 := Tryz.isAgg308
 z139 := Tryz.sizeOf308
 v139 := Tryz.zeroValue308
 g3 := kR
 g4 := by kernel_rfl }
end Go.Proofs
