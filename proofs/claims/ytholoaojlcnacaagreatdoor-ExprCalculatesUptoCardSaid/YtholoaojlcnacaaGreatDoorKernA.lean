/- The functions without a body; known() of layer 18 evaluated by the kernel. -/
import Derived.Test.YtholoaojlcnacaaGreatDoorWalkA
import Derived.Lib.Bytealg
set_option linter.unusedVariables false
set_option linter.unusedSimpArgs false
set_option linter.unusedSectionVars false
set_option linter.unusedSimpArgs false
namespace Go.Proofs
open Go Av

def idxB : List UInt8 → UInt8 → Nat → Int
  | [], _, _ => -1
  | b :: l, c, k => if b == c then (k : Int) else idxB l c (k + 1)

theorem idxB_eq (c : UInt8) : ∀ (l : List UInt8) (k : Nat), idxB l c k = if Lib.indexByte l c = -1 then -1 else Lib.indexByte l c + k
  | [], k => rfl
  | b :: l, k => by
    rw [idxB, Lib.indexByte, idxB_eq c l (k + 1)]
    have hge := Lib.indexByte_ge l c
    by_cases h : (b == c) = true
    · simp [h]
    · simp only [h, Bool.false_eq_true, ↓reduceIte, beq_iff_eq]
      by_cases h2 : Lib.indexByte l c = -1
      · simp [h2]
      · simp only [h2, ↓reduceIte]
        rw [if_neg (by omega)]
        omega
theorem idxB_le (c : UInt8) : ∀ (l : List UInt8) (k : Nat), -1 ≤ idxB l c k ∧ idxB l c k ≤ (l.length + k : Nat)
  | [], k => by simp only [idxB]; omega
  | b :: l, k => by
    have := idxB_le c l (k + 1)
    simp only [idxB, List.length_cons]
    split
    · omega
    · omega

theorem ext370 (s : Str) (c : Int) : CallOK Tryz.prog 370 [.d (.str s), .d (.int .u8 c)] [] (.d (.int .i64 (idxB s c.toNat.toUInt8 0))) [] := by
  intro β A w H vs _ hc hvs
  obtain ⟨hl, hv⟩ := hvs
  have h2 : vs.size = 2 := by simpa using hl.symm
  obtain ⟨x, y, rfl⟩ : ∃ x y, vs = #[x, y] := by
    refine ⟨vs[0], vs[1], ?_⟩
    apply Array.ext
    · simp [h2]
    · intro i h1 h2'
      have : i = 0 ∨ i = 1 := by omega
      rcases this with rfl | rfl <;> rfl
  have hx := (hv 0 _ x rfl rfl).of_d
  have hy := (hv 1 _ y rfl rfl).of_d
  cases hx with
  | str _ hs =>
    cases hy
    have hle := idxB_le c.toNat.toUInt8 s 0
    refine .inr ⟨.int .i64 (idxB s c.toNat.toUInt8 0), w, ?_, β, A, Stp.refl hc, .d _ _ (.int _ _ ?_)⟩
    · refine ext_run (e := Extern.BytealgIndexByte.indexByte) Tryz.func370 (by kernel_rfl) (by kernel_rfl) (by kernel_rfl) (by kernel_rfl) ?_
      rw [Lib.run_indexByteString, idxB_eq]
      congr 2
      show Lib.indexByte s _ = _
      have hge := Lib.indexByte_ge s c.toNat.toUInt8
      by_cases h : Lib.indexByte s c.toNat.toUInt8 = -1
      · simp [h]
      · simp [h]
    · have e1 : IntKind.i64.min = -9223372036854775808 := by decide
      have e2 : IntKind.i64.max = 9223372036854775807 := by decide
      rw [e1, e2]
      omega

def X1 : Ext := fun f ds => match f, ds with
  | 217, [.str a, .str b] => some (.d (.int .i64 (Extern.BytealgCompare.cmp ⟨a.toArray⟩ ⟨b.toArray⟩)))
  | 370, [.str s, .int .u8 c] => some (.d (.int .i64 (idxB s c.toNat.toUInt8 0)))
  | _, _ => none
theorem X1_ok : ExtOK Tryz.prog X1 := by
  intro f ds d h
  unfold X1 at h
  split at h
  · cases h; exact ext217 _ _
  · cases h; exact ext370 _ _
  · cases h
def K1 (f : Nat) : Bool := f == 55
end Go.Proofs
/- Answers of functions at some data, checked by the kernel once and kept in tables. -/
set_option linter.unusedSimpArgs false
set_option maxRecDepth 10000
namespace Go.Proofs
open Go Av

mutual
def datEq : Dat → Dat → Bool
  | .bool a, .bool b => a == b
  | .int k a, .int l b => decide (k = l) && a == b
  | .str a, .str b => a == b
  | .nil a, .nil b => a == b
  | .list a xs, .list b ys => a == b && datEqs xs ys
  | .agg xs, .agg ys => datEqs xs ys
  | .nilIface, .nilIface => true
  | _, _ => false
def datEqs : List Dat → List Dat → Bool
  | [], [] => true
  | x :: xs, y :: ys => datEq x y && datEqs xs ys
  | _, _ => false
end
mutual
theorem datEq_eq : ∀ (a b : Dat), datEq a b = true → a = b
  | .bool a, .bool b, h => by simp only [datEq, beq_iff_eq] at h; rw [h]
  | .int k a, .int l b, h => by simp only [datEq, Bool.and_eq_true, decide_eq_true_eq, beq_iff_eq] at h; rw [h.1, h.2]
  | .str a, .str b, h => by simp only [datEq, beq_iff_eq] at h; rw [h]
  | .nil a, .nil b, h => by simp only [datEq, beq_iff_eq] at h; rw [h]
  | .list a xs, .list b ys, h => by simp only [datEq, Bool.and_eq_true, beq_iff_eq] at h; rw [h.1, datEqs_eq xs ys h.2]
  | .agg xs, .agg ys, h => by simp only [datEq] at h; rw [datEqs_eq xs ys h]
  | .nilIface, b, h => by cases b <;> first | rfl | (simp [datEq] at h)
  | .fn .., b, h => by cases b <;> simp [datEq] at h
  | .ptr _, b, h => by cases b <;> simp [datEq] at h
  | .map _, b, h => by cases b <;> simp [datEq] at h
  | .nilFn, b, h => by cases b <;> simp [datEq] at h
  | .nilPtr, b, h => by cases b <;> simp [datEq] at h
  | .nilMap, b, h => by cases b <;> simp [datEq] at h
  | .iface _ _, b, h => by cases b <;> simp [datEq] at h
  | .opq, b, h => by cases b <;> simp [datEq] at h
  | .bool _, .int .., h | .bool _, .str _, h | .bool _, .nil _, h | .bool _, .list .., h | .bool _, .agg _, h | .bool _, .fn .., h | .bool _, .ptr _, h | .bool _, .map _, h | .bool _, .nilFn, h | .bool _, .nilPtr, h | .bool _, .nilMap, h | .bool _, .nilIface, h | .bool _, .iface .., h | .bool _, .opq, h => by simp [datEq] at h
  | .int .., .bool _, h | .int .., .str _, h | .int .., .nil _, h | .int .., .list .., h | .int .., .agg _, h | .int .., .fn .., h | .int .., .ptr _, h | .int .., .map _, h | .int .., .nilFn, h | .int .., .nilPtr, h | .int .., .nilMap, h | .int .., .nilIface, h | .int .., .iface .., h | .int .., .opq, h => by simp [datEq] at h
  | .str _, .bool _, h | .str _, .int .., h | .str _, .nil _, h | .str _, .list .., h | .str _, .agg _, h | .str _, .fn .., h | .str _, .ptr _, h | .str _, .map _, h | .str _, .nilFn, h | .str _, .nilPtr, h | .str _, .nilMap, h | .str _, .nilIface, h | .str _, .iface .., h | .str _, .opq, h => by simp [datEq] at h
  | .nil _, .bool _, h | .nil _, .int .., h | .nil _, .str _, h | .nil _, .list .., h | .nil _, .agg _, h | .nil _, .fn .., h | .nil _, .ptr _, h | .nil _, .map _, h | .nil _, .nilFn, h | .nil _, .nilPtr, h | .nil _, .nilMap, h | .nil _, .nilIface, h | .nil _, .iface .., h | .nil _, .opq, h => by simp [datEq] at h
  | .list .., .bool _, h | .list .., .int .., h | .list .., .str _, h | .list .., .nil _, h | .list .., .agg _, h | .list .., .fn .., h | .list .., .ptr _, h | .list .., .map _, h | .list .., .nilFn, h | .list .., .nilPtr, h | .list .., .nilMap, h | .list .., .nilIface, h | .list .., .iface .., h | .list .., .opq, h => by simp [datEq] at h
  | .agg _, .bool _, h | .agg _, .int .., h | .agg _, .str _, h | .agg _, .nil _, h | .agg _, .list .., h | .agg _, .fn .., h | .agg _, .ptr _, h | .agg _, .map _, h | .agg _, .nilFn, h | .agg _, .nilPtr, h | .agg _, .nilMap, h | .agg _, .nilIface, h | .agg _, .iface .., h | .agg _, .opq, h => by simp [datEq] at h
theorem datEqs_eq : ∀ (a b : List Dat), datEqs a b = true → a = b
  | [], [], _ => rfl
  | [], _ :: _, h => by simp [datEqs] at h
  | _ :: _, [], h => by simp [datEqs] at h
  | x :: xs, y :: ys, h => by
    simp only [datEqs, Bool.and_eq_true] at h
    rw [datEq_eq x y h.1, datEqs_eq xs ys h.2]
end
def avEqs : List Av → List Av → Bool
  | [], [] => true
  | .d x :: xs, .d y :: ys => datEq x y && avEqs xs ys
  | _, _ => false
theorem avEqs_eq : ∀ (a b : List Av), avEqs a b = true → a = b
  | [], [], _ => rfl
  | [], _ :: _, h => by simp [avEqs] at h
  | x :: xs, [], h => by cases x <;> simp [avEqs] at h
  | x :: xs, y :: ys, h => by
    cases x with
    | d x =>
      cases y with
      | d y =>
        simp only [avEqs, Bool.and_eq_true] at h
        rw [datEq_eq x y h.1, avEqs_eq xs ys h.2]
      | _ => simp [avEqs] at h
    | _ => simp [avEqs] at h
def avEq : Av → Av → Bool
  | .d x, .d y => datEq x y
  | .tup xs, .tup ys => avEqs xs ys
  | _, _ => false
theorem avEq_eq {a b : Av} (h : avEq a b = true) : a = b := by
  unfold avEq at h
  split at h
  · rw [datEq_eq _ _ h]
  · rw [avEqs_eq _ _ h]
  · cases h

abbrev Tbl := List (Nat × List Dat × Av)
def findT (f : Nat) (ds : List Dat) : Tbl → Option Av
  | [] => none
  | (g, l, v) :: r => match g == f with
    | true => match datEqs ds l with
      | true => some v
      | false => findT f ds r
    | false => findT f ds r
/-- a table asked first -/
def ext (t : Tbl) (X : Ext) : Ext := fun f ds => match findT f ds t with
  | some v => some v
  | none => X f ds
def tblOK (P : Program) (X : Ext) : Tbl → Bool
  | [] => true
  | (f, l, v) :: r => (match evF P false (callF P X K1 500 40) 500 f (l.map .d) [] with
    | some (u, _) => pureB u && avEq u v
    | none => false) && tblOK P X r

theorem tblOK_find {P : Program} {X : Ext} (hX : ExtOK P X) : ∀ {t : Tbl} {f : Nat} {ds : List Dat} {v : Av}, tblOK P X t = true → findT f ds t = some v → CallOK P (.fn f) (ds.map .d) [] v []
  | [], _, _, _, _, h => by cases h
  | (g, l, x) :: r, f, ds, v, h, hf => by
    rw [tblOK, Bool.and_eq_true] at h
    rw [findT] at hf
    split at hf
    · rename_i e1
      split at hf
      · rename_i e2
        cases hf
        obtain rfl := datEqs_eq _ _ e2
        simp only [beq_iff_eq] at e1
        subst e1
        have h1 := h.1
        cases ev : evF P false (callF P X K1 500 40) 500 g (ds.map .d) [] with
        | none => rw [ev] at h1; cases h1
        | some y =>
          obtain ⟨u, fh⟩ := y
          rw [ev] at h1
          simp only [Bool.and_eq_true] at h1
          obtain ⟨hp, he⟩ := h1
          obtain rfl := avEq_eq he
          have hc : PCon P g ds u := ev_pcon (X := X) (K := K1) (L := 500) (n := 40) hX ev hp
          exact hc.call (pureB_ok hp)
      · exact tblOK_find hX h.2 hf
    · exact tblOK_find hX h.2 hf

theorem ext_ok {P : Program} {X : Ext} {t : Tbl} (hX : ExtOK P X) (h : tblOK P X t = true) : ExtOK P (ext t X) := by
  intro f ds v hx
  unfold ext at hx
  split at hx
  · rename_i u e
    cases hx
    exact tblOK_find hX h e
  · exact hX f ds v hx

def trueT (P : Program) (X : Ext) (f : Nat) : Bool := match evF P false (callF P X K1 500 40) 500 f [] [] with
  | some (.d (.bool b), _) => b
  | _ => false
theorem trueT_pcon {P : Program} {X : Ext} (hX : ExtOK P X) {f : Nat} (h : trueT P X f = true) : PCon P f [] (.d (.bool true)) := by
  unfold trueT at h
  cases e : evF P false (callF P X K1 500 40) 500 f [] [] with
  | none => rw [e] at h; cases h
  | some x =>
    obtain ⟨v, fh⟩ := x
    rw [e] at h
    have hv : v = .d (.bool true) := by
      cases v with
      | d x => cases x <;> first | (cases h; done) | (simp only at h; rw [h])
      | _ => cases h
    subst hv
    exact ev_pcon (X := X) (K := K1) (L := 500) (n := 40) (f := f) (ds := []) (v := .d (.bool true)) (fh := fh) hX e rfl
end Go.Proofs
