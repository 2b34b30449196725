/-
  DERIVED: THE SHELF's CONTRACTS AT THIS DUMP, IN PLAIN WORDS (tools/lay-plain.mjs out of 'TShV.lean', which tools/lay-shelf.mjs wrote): THE SAME DECLARATIONS UNDER THE SAME NAMES: 'import', 'namespace', 'open', 'def', 'theorem' AND NOTHING ELSE: no command of the shelf's: FOR A HAND-IN. Each laying: the table of numbers ('.._ren') and one theorem, a field a fact of the dump's own or the kernel's comparison; each contract: ONE APPLICATION.
-/
import Derived.Shelf.SlGeneric
import Derived.Shelf.Unicode.ValidAny
import Derived.Ground.Names2Prog
import Derived.Test.YtholoaojlcnacaaGreatDoorProg
import Derived.Test.YtholoaojlcnacaaGreatDoorPathB
import Derived.Test.YtholoaojlcnacaaGreatDoorFormsB
import Derived.Test.YtholoaojlcnacaaGreatDoorAvD
set_option linter.unusedVariables false
set_option linter.unusedSimpArgs false
set_option linter.unusedSectionVars false
namespace Go.Proofs
open Go.Shelf
def Tryz.laysValid_ren : Go.Shelf.Ren := ⟨fun | 196 => 106 | 259 => 166 | n => n, fun | 9 => 9 | 4 => 4 | 3 => 3 | 5 => 5 | 12 => 12 | 119 => 211 | 0 => 0 | 46 => 189 | 139 => 214 | 138 => 213 | 53 => 248 | n => n, fun | 3 => 0 | 4 => 1 | n => n⟩
theorem Tryz.laysValid : Go.Proofs.Lays.n196 Tryz.prog Tryz.laysValid_ren := {
  mixed := by kernel_rfl
  f196 := Tryz.func106.trans (congrArg some (by kernel_rfl))
  f259 := Tryz.func166.trans (congrArg some (by kernel_rfl))
  t0 := Tryz.underlying0
  a0 := Tryz.isAgg0
  z0 := Tryz.sizeOf0
  v0 := Tryz.zeroValue0
  t3 := Tryz.underlying3
  a3 := Tryz.isAgg3
  z3 := Tryz.sizeOf3
  v3 := Tryz.zeroValue3
  t4 := Tryz.underlying4
  a4 := Tryz.isAgg4
  z4 := Tryz.sizeOf4
  v4 := Tryz.zeroValue4
  t5 := Tryz.underlying5
  a5 := Tryz.isAgg5
  z5 := Tryz.sizeOf5
  v5 := Tryz.zeroValue5
  t9 := Tryz.underlying9
  a9 := Tryz.isAgg9
  z9 := Tryz.sizeOf9
  v9 := Tryz.zeroValue9
  t12 := Tryz.underlying12
  a12 := Tryz.isAgg12
  z12 := Tryz.sizeOf12
  v12 := Tryz.zeroValue12
  t46 := Tryz.underlying189
  a46 := Tryz.isAgg189
  z46 := Tryz.sizeOf189
  v46 := Tryz.zeroValue189
  t53 := Tryz.underlying248
  a53 := Tryz.isAgg248
  z53 := Tryz.sizeOf248
  v53 := Tryz.zeroValue248
  t119 := Tryz.underlying211
  a119 := Tryz.isAgg211
  z119 := Tryz.sizeOf211
  t138 := Tryz.underlying213
  a138 := Tryz.isAgg213
  z138 := Tryz.sizeOf213
  v138 := Tryz.zeroValue213
  t139 := Tryz.underlying214
  a139 := Tryz.isAgg214
  z139 := Tryz.sizeOf214
  v139 := Tryz.zeroValue214
  g3 := by kernel_rfl
  g4 := by kernel_rfl }
end Go.Proofs
/- The rules of values, kind by kind; IsNull, uses, parts. -/
set_option linter.unusedSimpArgs false
set_option linter.unusedVariables false
set_option maxRecDepth 10000
namespace Go.Proofs
open Go Av Go.RowKit

def btw (n lo hi : Int) : Int := if decide (n < lo) || decide (n > hi) then 2 else 0
theorem walk100 (n lo hi : Int) : PCon Tryz.prog 100 [.int .i64 n, .int .i64 lo, .int .i64 hi] (.d (.int .i64 (btw n lo hi))) := by
  refine ok100.pcon (Nat.le_of_ble_eq_true rfl) trivial ?_
  simp only [go_sem, ir100, Nat.reduceAdd, Nat.reduceEqDiff, Nat.reduceBEq, Nat.reduceLeDiff, reduceCtorEq, ↓reduceIte]
  refine scQ_pure (decide (n > hi)) (fun _ => ?_) ?_
  · simp only [go_sem, Nat.reduceAdd, Nat.reduceEqDiff, Nat.reduceBEq, Nat.reduceLeDiff, reduceCtorEq, ↓reduceIte]
  simp only [go_sem, Nat.reduceAdd, Nat.reduceEqDiff, Nat.reduceBEq, Nat.reduceLeDiff, reduceCtorEq, ↓reduceIte]
  refine ⟨fun h => ?_, fun h => ?_⟩
  · rw [btw, if_pos h]
  · rw [btw, if_neg (by simp [h])]

def szE (n m e : Int) : Int := if decide (n > m) then e else 0
theorem walk105 (n m e : Int) : PCon Tryz.prog 105 [.int .i64 n, .int .i64 m, .int .i64 e] (.d (.int .i64 (szE n m e))) := by
  refine ok105.pcon (Nat.le_of_ble_eq_true rfl) trivial ?_
  simp only [go_sem, ir105, Nat.reduceAdd, Nat.reduceEqDiff, Nat.reduceBEq, Nat.reduceLeDiff, reduceCtorEq, ↓reduceIte]
  refine ⟨fun h => ?_, fun h => ?_⟩
  · rw [szE, if_pos h]
  · rw [szE, if_neg (by simp [h])]

theorem walk99 (v : Val) : PCon Tryz.prog 99 [encV v] (.d (.int .i64 (btw v.int 0 1))) := by
  refine ok99.pcon (Nat.le_of_ble_eq_true rfl) trivial ?_
  rw [encV_eq]
  simp only [go_sem, ir99, List.length_map, Nat.reduceAdd, Nat.reduceEqDiff, Nat.reduceBEq, Nat.reduceLeDiff, reduceCtorEq, ↓reduceIte]
  refine wps_call rfl ((walk100 _ _ _).call trivial) trivial ?_
  simp only [go_sem, Nat.reduceAdd, Nat.reduceEqDiff, Nat.reduceBEq, Nat.reduceLeDiff, reduceCtorEq, ↓reduceIte]

theorem walk101 (v : Val) : PCon Tryz.prog 101 [encV v] (.d (.int .i64 (btw v.int (-999999999999999) 999999999999999))) := by
  refine ok101.pcon (Nat.le_of_ble_eq_true rfl) trivial ?_
  rw [encV_eq]
  simp only [go_sem, ir101, List.length_map, Nat.reduceAdd, Nat.reduceEqDiff, Nat.reduceBEq, Nat.reduceLeDiff, reduceCtorEq, ↓reduceIte]
  refine wps_call rfl ((walk100 _ _ _).call trivial) trivial ?_
  simp only [go_sem, Nat.reduceAdd, Nat.reduceEqDiff, Nat.reduceBEq, Nat.reduceLeDiff, reduceCtorEq, ↓reduceIte]

theorem walk108 (v : Val) : PCon Tryz.prog 108 [encV v] (.d (.int .i64 (btw v.int (-719162) 2932896))) := by
  refine ok108.pcon (Nat.le_of_ble_eq_true rfl) trivial ?_
  rw [encV_eq]
  simp only [go_sem, ir108, List.length_map, Nat.reduceAdd, Nat.reduceEqDiff, Nat.reduceBEq, Nat.reduceLeDiff, reduceCtorEq, ↓reduceIte]
  refine wps_call rfl ((walk100 _ _ _).call trivial) trivial ?_
  simp only [go_sem, Nat.reduceAdd, Nat.reduceEqDiff, Nat.reduceBEq, Nat.reduceLeDiff, reduceCtorEq, ↓reduceIte]

theorem walk109 (v : Val) : PCon Tryz.prog 109 [encV v] (.d (.int .i64 (btw v.int (-62135596800000) 253402300799999))) := by
  refine ok109.pcon (Nat.le_of_ble_eq_true rfl) trivial ?_
  rw [encV_eq]
  simp only [go_sem, ir109, List.length_map, Nat.reduceAdd, Nat.reduceEqDiff, Nat.reduceBEq, Nat.reduceLeDiff, reduceCtorEq, ↓reduceIte]
  refine wps_call rfl ((walk100 _ _ _).call trivial) trivial ?_
  simp only [go_sem, Nat.reduceAdd, Nat.reduceEqDiff, Nat.reduceBEq, Nat.reduceLeDiff, reduceCtorEq, ↓reduceIte]

theorem walk107 (v : Val) : PCon Tryz.prog 107 [encV v] (.d (.int .i64 (szE v.text.length 1024 5))) := by
  refine ok107.pcon (Nat.le_of_ble_eq_true rfl) trivial ?_
  rw [encV_eq]
  simp only [go_sem, ir107, List.length_map, Nat.reduceAdd, Nat.reduceEqDiff, Nat.reduceBEq, Nat.reduceLeDiff, reduceCtorEq, ↓reduceIte]
  refine wps_call rfl ((walk105 _ _ _).call trivial) trivial ?_
  simp only [go_sem, Nat.reduceAdd, Nat.reduceEqDiff, Nat.reduceBEq, Nat.reduceLeDiff, reduceCtorEq, ↓reduceIte]

theorem walk110 (v : Val) : PCon Tryz.prog 110 [encV v] (.d (.int .i64 (szE v.list.length 256 9))) := by
  refine ok110.pcon (Nat.le_of_ble_eq_true rfl) trivial ?_
  rw [encV_eq]
  simp only [go_sem, ir110, List.length_map, Nat.reduceAdd, Nat.reduceEqDiff, Nat.reduceBEq, Nat.reduceLeDiff, reduceCtorEq, ↓reduceIte]
  refine wps_call rfl ((walk105 _ _ _).call trivial) trivial ?_
  simp only [go_sem, Nat.reduceAdd, Nat.reduceEqDiff, Nat.reduceBEq, Nat.reduceLeDiff, reduceCtorEq, ↓reduceIte]

def fstE : List Int → Int
  | [] => 0
  | x :: r => if x != 0 then x else fstE r
theorem walk103 (l : List Int) (hl : l.length ≤ 68719476736) : PCon Tryz.prog 103 [.list 1 (l.map fun x => .int .i64 x)] (.d (.int .i64 (fstE l))) := by
  refine ok103.pcon (Nat.le_of_ble_eq_true rfl) trivial ?_
  simp only [go_sem, ir103, List.length_map, Nat.reduceAdd, Nat.reduceEqDiff, Nat.reduceBEq, Nat.reduceLeDiff, reduceCtorEq, ↓reduceIte]
  generalize hR : fstE l = R
  refine wpc_loop (fun n s => ∃ k : Nat, k ≤ l.length ∧ n = l.length - k ∧ R = fstE (l.drop k) ∧
    s = ⟨[(5, .d (.list 1 (l.map fun x => .int .i64 x))), (6, .d (.int .i64 l.length)), (7, .d (.int .i64 k))], []⟩) ?_ ?_
  · exact ⟨_, _, Wk.refl _, 0, Nat.zero_le _, rfl, hR.symm, rfl⟩
  · rintro n s ⟨k, hk, rfl, hinv, rfl⟩
    by_cases hlt : k < l.length
    · have hx : nth (l.map fun x => Dat.int .i64 x) k = .int .i64 l[k] := by rw [nth_eq (by simpa using hlt)]; simp
      have hd : decide ((k : Int) < (l.length : Int)) = true := by simp; omega
      rw [List.drop_eq_getElem_cons hlt, fstE] at hinv
      simp only [go_sem, hx, hd, Int.toNat_natCast, List.length_map, Nat.reduceAdd, Nat.reduceEqDiff, Nat.reduceBEq, Nat.reduceLeDiff, reduceCtorEq, ↓reduceIte]
      refine ⟨by omega, by decide, fun hf => ?_, fun hf => ?_⟩
      · rw [if_pos hf] at hinv
        rw [hinv]
      · rw [if_neg (by simp [hf])] at hinv
        refine ⟨l.length - (k + 1), _, by omega, Wk.less ?_, k + 1, by omega, rfl, hinv, rfl⟩
        simp only [go_sem, wrap64s k (by omega), Nat.reduceAdd, Nat.reduceEqDiff, Nat.reduceBEq, Nat.reduceLeDiff, reduceCtorEq, ↓reduceIte]
    · have hd : decide ((k : Int) < (l.length : Int)) = false := by simp; omega
      obtain rfl : k = l.length := by omega
      rw [List.drop_length, fstE] at hinv
      simp only [go_sem, hd, hinv, Nat.reduceAdd, Nat.reduceEqDiff, Nat.reduceBEq, Nat.reduceLeDiff, reduceCtorEq, ↓reduceIte]

theorem walk102 (v : Val) : PCon Tryz.prog 102 [encV v] (.d (.int .i64 (fstE [btw v.int (-999999999999999) 999999999999999, btw v.scale 0 12]))) := by
  refine ok102.pcon (Nat.le_of_ble_eq_true rfl) trivial ?_
  rw [encV_eq]
  simp only [go_sem, ir102, Nat.reduceAdd, Nat.reduceEqDiff, Nat.reduceBEq, Nat.reduceLeDiff, reduceCtorEq, ↓reduceIte]
  refine wpsL_call rfl ((walk100 _ _ _).call trivial) trivial ?_
  simp only [go_sem, Nat.reduceAdd, Nat.reduceEqDiff, Nat.reduceBEq, Nat.reduceLeDiff, reduceCtorEq, ↓reduceIte]
  refine wpsL_call rfl ((walk100 _ _ _).call trivial) trivial ?_
  simp only [go_sem, Nat.reduceAdd, Nat.reduceEqDiff, Nat.reduceBEq, Nat.reduceLeDiff, reduceCtorEq, ↓reduceIte]
  refine ⟨by simp, ?_⟩
  refine wpsL_call rfl ((walk103 [btw v.int (-999999999999999) 999999999999999, btw v.scale 0 12] (by simp)).call trivial) trivial ?_
  simp only [go_sem, Nat.reduceAdd, Nat.reduceEqDiff, Nat.reduceBEq, Nat.reduceLeDiff, reduceCtorEq, ↓reduceIte]
  rfl

def nullV (v : Val) : Bool := (v.kind == 0) && (v.int == 0) && (v.scale == 0) && (v.text == []) && (((v.list.length : Nat) : Int) == 0) && (((v.fields.length : Nat) : Int) == 0)
theorem walk13 (v : Val) : PCon Tryz.prog 13 [encV v] (.d (.bool (nullV v))) := by
  refine ok13.pcon (Nat.le_of_ble_eq_true rfl) trivial ?_
  rw [encV_eq]
  simp only [go_sem, ir13, Nat.reduceAdd, Nat.reduceEqDiff, Nat.reduceBEq, Nat.reduceLeDiff, reduceCtorEq, ↓reduceIte]
  refine scQ_pure (v.int == 0) (fun _ => ?_) ?_
  · simp only [go_sem, Nat.reduceAdd, Nat.reduceEqDiff, Nat.reduceBEq, Nat.reduceLeDiff, reduceCtorEq, ↓reduceIte]
  simp only [go_sem, Nat.reduceAdd, Nat.reduceEqDiff, Nat.reduceBEq, Nat.reduceLeDiff, reduceCtorEq, ↓reduceIte]
  refine scQ_pure (v.scale == 0) (fun _ => ?_) ?_
  · simp only [go_sem, Nat.reduceAdd, Nat.reduceEqDiff, Nat.reduceBEq, Nat.reduceLeDiff, reduceCtorEq, ↓reduceIte]
  simp only [go_sem, Nat.reduceAdd, Nat.reduceEqDiff, Nat.reduceBEq, Nat.reduceLeDiff, reduceCtorEq, ↓reduceIte]
  refine scQ_pure (v.text == []) (fun _ => ?_) ?_
  · simp only [go_sem, Nat.reduceAdd, Nat.reduceEqDiff, Nat.reduceBEq, Nat.reduceLeDiff, reduceCtorEq, ↓reduceIte]
  simp only [go_sem, Nat.reduceAdd, Nat.reduceEqDiff, Nat.reduceBEq, Nat.reduceLeDiff, reduceCtorEq, ↓reduceIte]
  refine scQ_pure (((v.list.length : Nat) : Int) == 0) (fun _ => ?_) ?_
  · simp only [go_sem, List.length_map, Nat.reduceAdd, Nat.reduceEqDiff, Nat.reduceBEq, Nat.reduceLeDiff, reduceCtorEq, ↓reduceIte]
  simp only [go_sem, Nat.reduceAdd, Nat.reduceEqDiff, Nat.reduceBEq, Nat.reduceLeDiff, reduceCtorEq, ↓reduceIte]
  refine scQ_pure (((v.fields.length : Nat) : Int) == 0) (fun _ => ?_) ?_
  · simp only [go_sem, List.length_map, Nat.reduceAdd, Nat.reduceEqDiff, Nat.reduceBEq, Nat.reduceLeDiff, reduceCtorEq, ↓reduceIte]
  simp only [go_sem, nullV, Nat.reduceAdd, Nat.reduceEqDiff, Nat.reduceBEq, Nat.reduceLeDiff, reduceCtorEq, ↓reduceIte]

def useN (v : Val) : Bool := (v.kind == 1) || (v.kind == 2) || (v.kind == 6) || (v.kind == 7) || (v.kind == 3)
def useT (v : Val) : Bool := (v.kind == 4) || (v.kind == 5) || (v.kind == 10)
def useL (v : Val) : Bool := (v.kind == 8) || (v.kind == 10)
def usesV (v : Val) : Bool := (useN v || (v.int == 0)) && ((v.kind == 3) || (v.scale == 0)) && (useT v || (v.text == [])) && (useL v || (((v.list.length : Nat) : Int) == 0)) && ((v.kind == 9) || (((v.fields.length : Nat) : Int) == 0))
theorem walk50 (v : Val) : PCon Tryz.prog 50 [encV v] (.d (.bool (usesV v))) := by
  refine ok50.pcon (Nat.le_of_ble_eq_true rfl) trivial ?_
  rw [encV_eq]
  simp only [go_sem, ir50, Nat.reduceAdd, Nat.reduceEqDiff, Nat.reduceBEq, Nat.reduceLeDiff, reduceCtorEq, ↓reduceIte]
  refine scQ_pure (v.kind == 2) (fun _ => ?_) ?_
  · simp only [go_sem, Nat.reduceAdd, Nat.reduceEqDiff, Nat.reduceBEq, Nat.reduceLeDiff, reduceCtorEq, ↓reduceIte]
  simp only [go_sem, Nat.reduceAdd, Nat.reduceEqDiff, Nat.reduceBEq, Nat.reduceLeDiff, reduceCtorEq, ↓reduceIte]
  refine scQ_pure (v.kind == 6) (fun _ => ?_) ?_
  · simp only [go_sem, Nat.reduceAdd, Nat.reduceEqDiff, Nat.reduceBEq, Nat.reduceLeDiff, reduceCtorEq, ↓reduceIte]
  simp only [go_sem, Nat.reduceAdd, Nat.reduceEqDiff, Nat.reduceBEq, Nat.reduceLeDiff, reduceCtorEq, ↓reduceIte]
  refine scQ_pure (v.kind == 7) (fun _ => ?_) ?_
  · simp only [go_sem, Nat.reduceAdd, Nat.reduceEqDiff, Nat.reduceBEq, Nat.reduceLeDiff, reduceCtorEq, ↓reduceIte]
  simp only [go_sem, Nat.reduceAdd, Nat.reduceEqDiff, Nat.reduceBEq, Nat.reduceLeDiff, reduceCtorEq, ↓reduceIte]
  refine scQ_pure (v.kind == 3) (fun _ => ?_) ?_
  · simp only [go_sem, Nat.reduceAdd, Nat.reduceEqDiff, Nat.reduceBEq, Nat.reduceLeDiff, reduceCtorEq, ↓reduceIte]
  simp only [go_sem, Nat.reduceAdd, Nat.reduceEqDiff, Nat.reduceBEq, Nat.reduceLeDiff, reduceCtorEq, ↓reduceIte]
  refine scQ_pure (v.kind == 5) (fun _ => ?_) ?_
  · simp only [go_sem, Nat.reduceAdd, Nat.reduceEqDiff, Nat.reduceBEq, Nat.reduceLeDiff, reduceCtorEq, ↓reduceIte]
  simp only [go_sem, Nat.reduceAdd, Nat.reduceEqDiff, Nat.reduceBEq, Nat.reduceLeDiff, reduceCtorEq, ↓reduceIte]
  refine scQ_pure (v.kind == 10) (fun _ => ?_) ?_
  · simp only [go_sem, Nat.reduceAdd, Nat.reduceEqDiff, Nat.reduceBEq, Nat.reduceLeDiff, reduceCtorEq, ↓reduceIte]
  simp only [go_sem, Nat.reduceAdd, Nat.reduceEqDiff, Nat.reduceBEq, Nat.reduceLeDiff, reduceCtorEq, ↓reduceIte]
  refine scQ_pure (v.kind == 10) (fun _ => ?_) ?_
  · simp only [go_sem, Nat.reduceAdd, Nat.reduceEqDiff, Nat.reduceBEq, Nat.reduceLeDiff, reduceCtorEq, ↓reduceIte]
  simp only [go_sem, Nat.reduceAdd, Nat.reduceEqDiff, Nat.reduceBEq, Nat.reduceLeDiff, reduceCtorEq, ↓reduceIte]
  refine scQ_pure (v.int == 0) (fun _ => ?_) ?_
  · simp only [go_sem, Nat.reduceAdd, Nat.reduceEqDiff, Nat.reduceBEq, Nat.reduceLeDiff, reduceCtorEq, ↓reduceIte]
  simp only [go_sem, Nat.reduceAdd, Nat.reduceEqDiff, Nat.reduceBEq, Nat.reduceLeDiff, reduceCtorEq, ↓reduceIte]
  refine scQ_pure ((v.kind == 3) || (v.scale == 0)) (fun _ => ?_) ?_
  · simp only [go_sem, Nat.reduceAdd, Nat.reduceEqDiff, Nat.reduceBEq, Nat.reduceLeDiff, reduceCtorEq, ↓reduceIte]
    refine scQ_pure (v.scale == 0) (fun _ => ?_) ?_
    · simp only [go_sem, Nat.reduceAdd, Nat.reduceEqDiff, Nat.reduceBEq, Nat.reduceLeDiff, reduceCtorEq, ↓reduceIte]
    simp only [go_sem, Nat.reduceAdd, Nat.reduceEqDiff, Nat.reduceBEq, Nat.reduceLeDiff, reduceCtorEq, ↓reduceIte]
  simp only [go_sem, Nat.reduceAdd, Nat.reduceEqDiff, Nat.reduceBEq, Nat.reduceLeDiff, reduceCtorEq, ↓reduceIte]
  refine scQ_pure (useT v || (v.text == [])) (fun _ => ?_) ?_
  · simp only [go_sem, Nat.reduceAdd, Nat.reduceEqDiff, Nat.reduceBEq, Nat.reduceLeDiff, reduceCtorEq, ↓reduceIte]
    refine scQ_pure (v.text == []) (fun _ => ?_) ?_
    · simp only [go_sem, Nat.reduceAdd, Nat.reduceEqDiff, Nat.reduceBEq, Nat.reduceLeDiff, reduceCtorEq, ↓reduceIte]
    simp only [go_sem, useT, Nat.reduceAdd, Nat.reduceEqDiff, Nat.reduceBEq, Nat.reduceLeDiff, reduceCtorEq, ↓reduceIte]
  simp only [go_sem, Nat.reduceAdd, Nat.reduceEqDiff, Nat.reduceBEq, Nat.reduceLeDiff, reduceCtorEq, ↓reduceIte]
  refine scQ_pure (useL v || (((v.list.length : Nat) : Int) == 0)) (fun _ => ?_) ?_
  · simp only [go_sem, Nat.reduceAdd, Nat.reduceEqDiff, Nat.reduceBEq, Nat.reduceLeDiff, reduceCtorEq, ↓reduceIte]
    refine scQ_pure (((v.list.length : Nat) : Int) == 0) (fun _ => ?_) ?_
    · simp only [go_sem, List.length_map, Nat.reduceAdd, Nat.reduceEqDiff, Nat.reduceBEq, Nat.reduceLeDiff, reduceCtorEq, ↓reduceIte]
    simp only [go_sem, useL, Nat.reduceAdd, Nat.reduceEqDiff, Nat.reduceBEq, Nat.reduceLeDiff, reduceCtorEq, ↓reduceIte]
  simp only [go_sem, Nat.reduceAdd, Nat.reduceEqDiff, Nat.reduceBEq, Nat.reduceLeDiff, reduceCtorEq, ↓reduceIte]
  refine scQ_pure ((v.kind == 9) || (((v.fields.length : Nat) : Int) == 0)) (fun _ => ?_) ?_
  · simp only [go_sem, Nat.reduceAdd, Nat.reduceEqDiff, Nat.reduceBEq, Nat.reduceLeDiff, reduceCtorEq, ↓reduceIte]
    refine scQ_pure (((v.fields.length : Nat) : Int) == 0) (fun _ => ?_) ?_
    · simp only [go_sem, List.length_map, Nat.reduceAdd, Nat.reduceEqDiff, Nat.reduceBEq, Nat.reduceLeDiff, reduceCtorEq, ↓reduceIte]
    simp only [go_sem, Nat.reduceAdd, Nat.reduceEqDiff, Nat.reduceBEq, Nat.reduceLeDiff, reduceCtorEq, ↓reduceIte]
  simp only [go_sem, usesV, useN, Nat.reduceAdd, Nat.reduceEqDiff, Nat.reduceBEq, Nat.reduceLeDiff, reduceCtorEq, ↓reduceIte]

def partsV (v : Val) : List Val := if v.kind = 8 ∨ v.kind = 10 then v.list else if v.kind = 9 then v.fields.map Fld.value else []
theorem partsV_len (v : Val) (h : v.list.length ≤ 68719476736) (h2 : v.fields.length ≤ 68719476736) : (partsV v).length ≤ 68719476736 := by
  unfold partsV
  split
  · exact h
  · split
    · simpa using h2
    · simp
theorem walk167 (v : Val) (h2 : v.fields.length ≤ 68719476736) : PCon Tryz.prog 167 [encV v] (.d (.list 6 ((partsV v).map encV))) := by
  refine ok167.pcon (Nat.le_of_ble_eq_true rfl) trivial ?_
  rw [encV_eq]
  by_cases h : v.kind = 8 ∨ v.kind = 10
  · have hp : partsV v = v.list := by unfold partsV; rw [if_pos h]
    rw [hp]
    rcases h with h | h
    · rw [h]
      simp only [go_sem, ir167, beq_self_eq_true, Nat.reduceAdd, Nat.reduceEqDiff, Nat.reduceBEq, Nat.reduceLeDiff, reduceCtorEq, ↓reduceIte]
    · rw [h]
      have q : ((10 : Int) == 8) = false := rfl
      simp only [go_sem, ir167, q, beq_self_eq_true, Nat.reduceAdd, Nat.reduceEqDiff, Nat.reduceBEq, Nat.reduceLeDiff, reduceCtorEq, ↓reduceIte]
  · have q8 : (v.kind == 8) = false := by simp; omega
    have q10 : (v.kind == 10) = false := by simp; omega
    by_cases h9 : v.kind = 9
    · have hp : partsV v = v.fields.map Fld.value := by unfold partsV; rw [if_neg h, if_pos h9]
      rw [hp]
      have q9 : (v.kind == 9) = true := by simp [h9]
      simp only [go_sem, ir167, q8, q9, q10, List.length_map, Nat.reduceAdd, Nat.reduceEqDiff, Nat.reduceBEq, Nat.reduceLeDiff, reduceCtorEq, ↓reduceIte]
      refine wpc_loop (fun n s => ∃ k : Nat, k ≤ v.fields.length ∧ n = v.fields.length - k ∧
        s = ⟨[(3, .ms 26 k), (16, .d (.list 7 (v.fields.map encF))), (17, .d (.int .i64 v.fields.length)), (18, .d (.int .i64 k))], [(26, .row k 6 (((v.fields.take k).map Fld.value).map encV))]⟩) ?_ ?_
      · refine ⟨_, _, (Wk.nilT 3 26 6 rfl rfl (by decide)).trans (Wk.less ?_), 0, Nat.zero_le _, rfl, rfl⟩
        simp [put, go_sem]
      · rintro n s ⟨k, hk, rfl, rfl⟩
        by_cases hlt : k < v.fields.length
        · have hx := nth_encF hlt
          have hd : decide ((k : Int) < (v.fields.length : Int)) = true := by simp; omega
          simp only [go_sem, hx, hd, Int.toNat_natCast, List.length_map, Nat.reduceAdd, Nat.reduceEqDiff, Nat.reduceBEq, Nat.reduceLeDiff, reduceCtorEq, ↓reduceIte]
          refine ⟨⟨by omega, by omega⟩, by simp, by simp; omega, v.fields.length - (k + 1), _, by omega, Wk.less ?_, k + 1, by omega, rfl, rfl⟩
          simp only [go_sem, wrap64s k (by omega), List.take_succ_eq_append_getElem hlt, List.map_append, List.map_cons, List.map_nil, encV_eq, Nat.reduceAdd, Nat.reduceEqDiff, Nat.reduceBEq, Nat.reduceLeDiff, reduceCtorEq, ↓reduceIte]
        · have hd : decide ((k : Int) < (v.fields.length : Int)) = false := by simp; omega
          obtain rfl : k = v.fields.length := by omega
          simp only [go_sem, hd, List.take_length, List.length_map, Nat.reduceAdd, Nat.reduceEqDiff, Nat.reduceBEq, Nat.reduceLeDiff, reduceCtorEq, ↓reduceIte]
    · have hp : partsV v = [] := by unfold partsV; rw [if_neg h, if_neg h9]
      rw [hp]
      have q9 : (v.kind == 9) = false := by simp [h9]
      simp only [go_sem, ir167, q8, q9, q10, List.map_nil, Nat.reduceAdd, Nat.reduceEqDiff, Nat.reduceBEq, Nat.reduceLeDiff, reduceCtorEq, ↓reduceIte]
end Go.Proofs
/- The rules of texts, records and variants; the rule of a kind. -/
set_option linter.unusedSimpArgs false
set_option linter.unusedVariables false
set_option maxRecDepth 10000
namespace Go.Proofs
open Go Av Go.RowKit

theorem fits_V {v : Val} (h : fits (encV v)) : v.text.length ≤ 68719476736 ∧ v.list.length ≤ 68719476736 ∧ v.fields.length ≤ 68719476736 ∧ (∀ x ∈ v.list, fits (encV x)) ∧ ∀ f ∈ v.fields, f.name.length ≤ 68719476736 ∧ fits (encV f.value) := by
  rw [encV_eq] at h
  simp only [fits, fitsL, List.length_map, and_true] at h
  obtain ⟨_, _, _, h1, ⟨h2, h3⟩, h4, h5⟩ := h
  refine ⟨h1, h2, h4, fun x hx => fitsL_iff.1 h3 _ (List.mem_map.2 ⟨x, hx, rfl⟩), fun f hf => ?_⟩
  have := fitsL_iff.1 h5 _ (List.mem_map.2 ⟨f, hf, rfl⟩)
  rw [encF_eq] at this
  simp only [fits, fitsL, and_true] at this
  refine ⟨this.1, ?_⟩
  rw [encV_eq]
  simp only [fits, fitsL, and_true]
  exact this.2

theorem u8Of {A : Nat → Prop} {w : World} {g : Nat} {cs : List Dat} (h : GRep A w g cs) (j : Nat) (n : Int) (hj : cs[j]? = some (.int .u8 n)) : w.cell? ⟨g, j, none⟩ = some (.int .u8 n) := by
  obtain ⟨h0, C, T, fr, h1, h2, h3, h4⟩ := h
  have hlt : j < C.size := by rw [← h2]; exact (List.getElem?_eq_some_iff.1 hj).1
  have := h4 j _ C[j] hj (by simp [hlt])
  generalize hz : C[j] = z at this
  cases this
  simp [World.cell?, h1, hlt, hz]

theorem utabs {A : Nat → Prop} {w : World} (hg : ∀ g cs, globOf g = some cs → GRep A w g cs) : Lib.Utf8Tabs 0 1 w := by
  have h0 := hg 0 tab0 rfl
  have h1 := hg 1 tab1 rfl
  refine ⟨fun c hc => u8Of h0 c _ (by simp [tab0, hc]), fun i hi => ?_⟩
  have e0 : tab1[2 * i]? = some (.int .u8 (Lib.accLo i)) ∧ tab1[2 * i + 1]? = some (.int .u8 (Lib.accHi i)) := by
    match i, hi with
    | 0, _ | 1, _ | 2, _ | 3, _ | 4, _ | 5, _ | 6, _ | 7, _ | 8, _ | 9, _ | 10, _ | 11, _ | 12, _ | 13, _ | 14, _ | 15, _ => exact ⟨rfl, rfl⟩
    | n + 16, h => omega
  exact ⟨u8Of h1 _ _ e0.1, u8Of h1 _ _ e0.2⟩

def validS (s : Str) : Bool := Lib.validD s
theorem call106 (s : Str) : CallOK Tryz.prog 106 [.d (.str s)] [] (.d (.bool (validS s))) [] := by
  refine CallOK.of_callsG (ds := [.str s]) (hasT Tryz.func106 (by kernel_rfl) (by kernel_rfl)) ?_
  intro A w vs hg hl hv
  obtain ⟨x, rfl⟩ := one_arg hl
  have hx := hv 0 _ x rfl rfl
  cases hx with
  | str _ h =>
    have e : (⟨s.toArray⟩ : ByteArray).data.toList = s := by simp
    have hsz : (⟨s.toArray⟩ : ByteArray).size = s.length := by simp [ByteArray.size]
    refine (Any.utf8_ValidString Tryz.laysValid ⟨s.toArray⟩ w (by omega) (utabs hg)).mono ?_
    rintro e' w' ⟨rfl, hb⟩
    rw [e]
    exact ⟨_, rfl, hb, fun β H => .d _ _ (.bool _)⟩

def textE (v : Val) : Int := if szE v.text.length 1024 5 == 0 && !validS v.text then 16 else szE v.text.length 1024 5
theorem walk104 (v : Val) : PCon Tryz.prog 104 [encV v] (.d (.int .i64 (textE v))) := by
  refine ok104.pcon (Nat.le_of_ble_eq_true rfl) trivial ?_
  rw [encV_eq]
  simp only [go_sem, ir104, Nat.reduceAdd, Nat.reduceEqDiff, Nat.reduceBEq, Nat.reduceLeDiff, reduceCtorEq, ↓reduceIte]
  refine wps_call rfl ((walk105 _ _ _).call trivial) trivial ?_
  simp only [go_sem, Nat.reduceAdd, Nat.reduceEqDiff, Nat.reduceBEq, Nat.reduceLeDiff, reduceCtorEq, ↓reduceIte]
  refine scQ_pure (!validS v.text) (fun _ => ?_) ?_
  · simp only [go_sem, Nat.reduceAdd, Nat.reduceEqDiff, Nat.reduceBEq, Nat.reduceLeDiff, reduceCtorEq, ↓reduceIte]
    refine wps_call rfl (call106 _) trivial ?_
    simp only [go_sem, Nat.reduceAdd, Nat.reduceEqDiff, Nat.reduceBEq, Nat.reduceLeDiff, reduceCtorEq, ↓reduceIte]
  simp only [go_sem, Nat.reduceAdd, Nat.reduceEqDiff, Nat.reduceBEq, Nat.reduceLeDiff, reduceCtorEq, ↓reduceIte]
  refine ⟨fun h => ?_, fun h => ?_⟩
  · rw [textE, if_pos h]
  · rw [textE, if_neg (by simp [h])]

theorem walk112' (s : Str) : PCon Tryz.prog 112 [.str s] (.d (.bool (nameS s))) := PCon.of_fits ok112.has fun h => walk112 s (h _ (List.mem_singleton.2 rfl))

def varE (v : Val) : Int := if !nameS v.text then 12 else if ((v.list.length : Nat) : Int) == 0 then 4 else szE v.list.length 1 3
theorem walk113 (v : Val) : PCon Tryz.prog 113 [encV v] (.d (.int .i64 (varE v))) := by
  refine ok113.pcon (Nat.le_of_ble_eq_true rfl) trivial ?_
  rw [encV_eq]
  simp only [go_sem, ir113, Nat.reduceAdd, Nat.reduceEqDiff, Nat.reduceBEq, Nat.reduceLeDiff, reduceCtorEq, ↓reduceIte]
  refine wps_call rfl ((walk112' _).call trivial) trivial ?_
  simp only [go_sem, List.length_map, Nat.reduceAdd, Nat.reduceEqDiff, Nat.reduceBEq, Nat.reduceLeDiff, reduceCtorEq, ↓reduceIte]
  refine ⟨fun h => ?_, fun h => ⟨fun h2 => ?_, fun h2 => ?_⟩⟩
  · rw [varE, if_pos h]
  · rw [varE, if_neg (by simp [h]), if_pos h2]
  · rw [varE, if_neg (by simp [h]), if_neg (by simp [h2])]
    refine wps_call rfl ((walk105 _ _ _).call trivial) trivial ?_
    simp only [go_sem, Nat.reduceAdd, Nat.reduceEqDiff, Nat.reduceBEq, Nat.reduceLeDiff, reduceCtorEq, ↓reduceIte]

def recE : Option Str → List Fld → Int
  | _, [] => 0
  | none, f :: r => if !nameS f.name then 12 else recE (some f.name) r
  | some p, f :: r => if !nameS f.name then 12 else if f.name == p then 7 else if strLt f.name p then 24 else recE (some f.name) r
def recV (v : Val) : Int := if szE v.fields.length 64 9 != 0 then szE v.fields.length 64 9 else recE none v.fields
def prevN (l : List Fld) : Nat → Option Str
  | 0 => none
  | k + 1 => l[k]?.map Fld.name

theorem walk111 (v : Val) : PCon Tryz.prog 111 [encV v] (.d (.int .i64 (recV v))) := by
  refine PCon.of_fits ok111.has fun hfit => ?_
  obtain ⟨_, _, hfl, _, _⟩ := fits_V (hfit _ (List.mem_singleton.2 rfl))
  refine ok111.pcon (Nat.le_of_ble_eq_true rfl) trivial ?_
  rw [encV_eq]
  simp only [go_sem, ir111, List.length_map, Nat.reduceAdd, Nat.reduceEqDiff, Nat.reduceBEq, Nat.reduceLeDiff, reduceCtorEq, ↓reduceIte]
  refine wps_call rfl ((walk105 _ _ _).call trivial) trivial ?_
  simp only [go_sem, Nat.reduceAdd, Nat.reduceEqDiff, Nat.reduceBEq, Nat.reduceLeDiff, reduceCtorEq, ↓reduceIte]
  refine ⟨fun h => ?_, fun h => ?_⟩
  · rw [recV, if_pos h]
  rw [recV, if_neg (by simp [h])]
  simp only [go_sem, List.length_map, Nat.reduceAdd, Nat.reduceEqDiff, Nat.reduceBEq, Nat.reduceLeDiff, reduceCtorEq, ↓reduceIte]
  generalize hR : recE none v.fields = R
  refine wpc_loop (fun n s => ∃ k : Nat, k ≤ v.fields.length ∧ n = v.fields.length - k ∧ R = recE (prevN v.fields k) (v.fields.drop k) ∧
    s = ⟨[(1, .ref 1 0), (14, .d (.list 7 (v.fields.map encF))), (15, .d (.int .i64 v.fields.length)), (16, .d (.int .i64 k))],
      [(1, .box [.d (.int .i64 v.kind), .d (.int .i64 v.int), .d (.int .i64 v.scale), .d (.str v.text), .d (.list 6 (v.list.map encV)), .d (.list 7 (v.fields.map encF))])]⟩) ?_ ?_
  · exact ⟨_, _, Wk.refl _, 0, Nat.zero_le _, rfl, hR.symm, rfl⟩
  · rintro n s ⟨k, hk, rfl, hinv, rfl⟩
    by_cases hlt : k < v.fields.length
    · have hx := nth_encF hlt
      have hd : decide ((k : Int) < (v.fields.length : Int)) = true := by simp; omega
      rw [List.drop_eq_getElem_cons hlt] at hinv
      simp only [go_sem, hx, hd, Int.toNat_natCast, List.length_map, Nat.reduceAdd, Nat.reduceEqDiff, Nat.reduceBEq, Nat.reduceLeDiff, reduceCtorEq, ↓reduceIte]
      refine ⟨by omega, wps_call rfl ((walk112' _).call trivial) trivial ?_⟩
      simp only [go_sem, Nat.reduceAdd, Nat.reduceEqDiff, Nat.reduceBEq, Nat.reduceLeDiff, reduceCtorEq, ↓reduceIte]
      refine ⟨fun h12 => ?_, fun h12 => ?_⟩
      · have : R = 12 := by
          rw [hinv]
          cases prevN v.fields k <;> simp only [recE, h12, ↓reduceIte]
        rw [this]
      cases k with
      | zero =>
        simp only [prevN, recE, h12, Bool.false_eq_true, ↓reduceIte] at hinv
        have hg : decide (((0 : Nat) : Int) > 0) = false := rfl
        simp only [go_sem, hg, Nat.reduceAdd, Nat.reduceEqDiff, Nat.reduceBEq, Nat.reduceLeDiff, reduceCtorEq, ↓reduceIte]
        have hp : prevN v.fields (0 + 1) = some v.fields[0].name := by simp [prevN, hlt]
        refine ⟨v.fields.length - 1, _, by omega, Wk.less ?_, 0 + 1, by omega, rfl, by rw [hp]; exact hinv, rfl⟩
        simp only [go_sem, wrap64s 0 (by omega), Nat.reduceAdd, Nat.reduceEqDiff, Nat.reduceBEq, Nat.reduceLeDiff, reduceCtorEq, ↓reduceIte]
      | succ k =>
        have hlt' : k < v.fields.length := by omega
        have hx' := nth_encF hlt'
        have hp : prevN v.fields (k + 1) = some v.fields[k].name := by simp [prevN, hlt']
        have hp2 : prevN v.fields (k + 1 + 1) = some v.fields[k + 1].name := by simp [prevN, hlt]
        rw [hp] at hinv
        simp only [recE, h12, Bool.false_eq_true, ↓reduceIte] at hinv
        have hg : decide (((k + 1 : Nat) : Int) > 0) = true := by simp
        have hw : IntKind.i64.wrap (((k + 1 : Nat) : Int) - 1) = k := by rw [wrap64 (by omega) (by omega)]; omega
        simp only [go_sem, hg, hw, hx', Int.toNat_natCast, List.length_map, Nat.reduceAdd, Nat.reduceEqDiff, Nat.reduceBEq, Nat.reduceLeDiff, reduceCtorEq, ↓reduceIte]
        refine ⟨⟨by omega, by omega⟩, by decide, fun q => ?_, fun q => ⟨⟨by omega, by omega⟩, by decide, fun q2 => ?_, fun q2 => ?_⟩⟩
        · rw [if_pos q] at hinv
          rw [hinv]
        · rw [if_neg (by simp [q]), if_pos q2] at hinv
          rw [hinv]
        · rw [if_neg (by simp [q]), if_neg (by simp [q2])] at hinv
          refine ⟨v.fields.length - (k + 1 + 1), _, by omega, Wk.less ?_, k + 1 + 1, by omega, rfl, by rw [hp2]; exact hinv, rfl⟩
          simp only [go_sem, wrap64s (k + 1) (by omega), Nat.reduceAdd, Nat.reduceEqDiff, Nat.reduceBEq, Nat.reduceLeDiff, reduceCtorEq, ↓reduceIte]
    · have hd : decide ((k : Int) < (v.fields.length : Int)) = false := by simp; omega
      obtain rfl : k = v.fields.length := by omega
      rw [List.drop_length] at hinv
      have : R = 0 := by rw [hinv]; cases prevN v.fields v.fields.length <;> rfl
      simp only [go_sem, hd, this, Nat.reduceAdd, Nat.reduceEqDiff, Nat.reduceBEq, Nat.reduceLeDiff, reduceCtorEq, ↓reduceIte]
end Go.Proofs
/- value.Check: a range over a function. -/
set_option linter.unusedSimpArgs false
set_option linter.unusedVariables false
set_option maxRecDepth 10000
namespace Go.Proofs
open Go Av

/-- the rule of a value's kind -/
def ruleE (v : Val) : Int :=
  if v.kind = 1 then btw v.int 0 1 else if v.kind = 2 then btw v.int (-999999999999999) 999999999999999
  else if v.kind = 3 then fstE [btw v.int (-999999999999999) 999999999999999, btw v.scale 0 12] else if v.kind = 4 then textE v else if v.kind = 5 then szE v.text.length 1024 5
  else if v.kind = 6 then btw v.int (-719162) 2932896 else if v.kind = 7 then btw v.int (-62135596800000) 253402300799999 else if v.kind = 8 then szE v.list.length 256 9
  else if v.kind = 9 then recV v else varE v
/-- the error of a value on a level, counted -/
def chkE (n level : Int) (v : Val) : Int :=
  if decide (n > 4096) then 9 else if decide (level > 8) then 23 else if nullV v then 19 else if decide (v.kind < 1) || decide (v.kind > 10) then 11 else if !usesV v then 3 else ruleE v

def rulesD : List Dat := [.nilFn, .fn (.func 99) [] [], .fn (.func 101) [] [], .fn (.func 102) [] [], .fn (.func 104) [] [], .fn (.func 107) [] [], .fn (.func 108) [] [], .fn (.func 109) [] [], .fn (.func 110) [] [], .fn (.func 111) [] [], .fn (.func 113) [] []]
theorem walk48 : PCon Tryz.prog 48 [] (.d (.agg rulesD)) := by
  refine ok48.pcon (Nat.le_of_ble_eq_true rfl) trivial ?_
  simp only [go_sem, ir48, Nat.reduceAdd, Nat.reduceEqDiff, Nat.reduceBEq, Nat.reduceLeDiff, reduceCtorEq, ↓reduceIte]
  rfl

theorem walk49 (v : Val) : PCon Tryz.prog 49 [encV v] (.d (.fn (.func 114) [] [.ptr (encV v).cells])) := by
  refine ok49.pcon (Nat.le_of_ble_eq_true rfl) trivial ?_
  rw [encV_eq]
  simp only [go_sem, ir49, Nat.reduceAdd, Nat.reduceEqDiff, Nat.reduceBEq, Nat.reduceLeDiff, reduceCtorEq, ↓reduceIte]
  simp only [go_sem, decide_eq_true_eq, reduceCtorEq, ↓reduceIte]

/-- the loop's record within the contracts -/
noncomputable def lpL (tm : List (Nat × Av)) (s : LoopState) (j : Option Code) : Lp := ⟨tm, 46, #[11, 12], subC (codeOf Tryz.f15) [1, 1, 1, 0, 1, 0, 0], subC (codeOf Tryz.f15) [1, 1, 1, 0, 1, 0, 1], s, j⟩
def tmL (c : Dat) : List (Nat × Av) := [(2, .ref 1002 0), (3, .ref 1003 0), (4, .ref 1004 0), (10, .d c)]
noncomputable abbrev TL (c : Dat) (e n : Int) : List (Nat × Av.Obj) := [(1000, .lp (lpL (tmL c) .ready none)), (1002, .box [.d (.int .i64 e)]), (1003, .box (rulesD.map .d)), (1004, .box [.d (.int .i64 n)])]
/-- how a round leaves it -/
noncomputable def afterL (c : Dat) (x : Int) : Av.Obj := if x = 0 then .lp (lpL (tmL c) .ready none) else .lp (lpL (tmL c) .done (some .ret))

theorem round30 (c : Dat) (e n level : Int) (v : Val) (hn : 0 ≤ n ∧ n ≤ 4096) :
    RCon Tryz.prog 1000 [.d (.int .i64 level), .d (encV v)] (TL c e n) (.d (.bool (chkE (n + 1) level v == 0)))
      [(1000, afterL c (chkE (n + 1) level v)), (1002, .box [.d (.int .i64 (if chkE (n + 1) level v = 0 then e else chkE (n + 1) level v))]), (1004, .box [.d (.int .i64 (n + 1))])] := by
  refine RCon.of_code (asg := asg15) (body := body15) rfl rfl (by kernel_rfl) (by kernel_rfl) rfl (show ∀ p ∈ [11, 12], p < 46 by decide) ?_ ?_
  · refine closed_puts ?_
    unfold afterL
    split <;> simp [TL, puts, put, closedH, objIn, idsInL, idsIn, idsInT, tmL, lpL, rulesD, Av.get]
  · rw [encV_eq]
    generalize hx : chkE (n + 1) level v = x
    generalize hD : (fun i => (get (TL c e n) i).isSome = true) = D
    generalize hK : RoundEnds 1000 (TL c e n) D (.d (.bool (x == 0))) _ = K
    have hw : IntKind.i64.wrap (n + 1) = n + 1 := wrap64 (by omega) (by omega)
    have leaf : x ≠ 0 → ∀ cs, K .ret ⟨[], [(1000, .lp (lpL (tmL c) .busy none)), (1002, .box [.d (.int .i64 x)]), (1003, .box (rulesD.map .d)), (1004, .box [.d (.int .i64 (n + 1))]), (6, .box cs)]⟩ := by
      intro h0 cs
      have hb : (x == 0) = false := by simp [h0]
      rw [← hK, ← hD, hb]
      refine ⟨_, _, rfl, rfl, ⟨[], [(1000, .lp (lpL (tmL c) .done (some .ret))), (1002, .box [.d (.int .i64 x)]), (1003, .box (rulesD.map .d)), (1004, .box [.d (.int .i64 (n + 1))])]⟩, Wk.less ?_, ?_⟩
      · simp [put, tmL, lpL, rulesD, go_sem]
      · intro i o h
        rw [← h, ← get_puts]
        simp [puts, put, afterL, h0]
    have leaf0 : x = 0 → ∀ cs, K .normal ⟨[], [(1000, .lp (lpL (tmL c) .busy none)), (1002, .box [.d (.int .i64 e)]), (1003, .box (rulesD.map .d)), (1004, .box [.d (.int .i64 (n + 1))]), (6, .box cs)]⟩ := by
      intro h0 cs
      have hb : (x == 0) = true := by simp [h0]
      rw [← hK, ← hD, hb]
      refine ⟨_, _, rfl, rfl, ⟨[], [(1000, .lp (lpL (tmL c) .ready none)), (1002, .box [.d (.int .i64 e)]), (1003, .box (rulesD.map .d)), (1004, .box [.d (.int .i64 (n + 1))])]⟩, Wk.less ?_, ?_⟩
      · simp [put, tmL, lpL, rulesD, go_sem]
      · intro i o h
        rw [← h, ← get_puts]
        simp [puts, put, afterL, h0]
    clear hK hD
    simp only [TL, lpL, tmL, asg15, body15, hw, go_sem, Nat.reduceAdd, Nat.reduceEqDiff, Nat.reduceBEq, Nat.reduceLeDiff, reduceCtorEq, ↓reduceIte]
    refine ⟨_, rfl, rfl, ?_⟩
    have c29 := (walk13 v).call trivial
    rw [encV_eq] at c29
    refine ⟨fun h1 => ?_, fun h1 => ⟨fun h2 => ?_, fun h2 => wps_call rfl c29 trivial ?_⟩⟩
    · obtain rfl : x = 9 := by rw [← hx, chkE, if_pos h1]
      exact leaf (by decide) _
    · obtain rfl : x = 23 := by rw [← hx, chkE, if_neg (by simp [h1]), if_pos h2]
      exact leaf (by decide) _
    rw [chkE, if_neg (by simp [h1]), if_neg (by simp [h2])] at hx
    simp only [go_sem, Nat.reduceAdd, Nat.reduceEqDiff, Nat.reduceBEq, Nat.reduceLeDiff, reduceCtorEq, ↓reduceIte]
    refine ⟨fun h3 => ?_, fun h3 => ?_⟩
    · obtain rfl : x = 19 := by rw [← hx, if_pos h3]
      exact leaf (by decide) _
    rw [if_neg (by simp [h3])] at hx
    refine scQ_pure (decide (v.kind > 10)) (fun _ => ?_) ?_
    · simp only [go_sem, Nat.reduceAdd, Nat.reduceEqDiff, Nat.reduceBEq, Nat.reduceLeDiff, reduceCtorEq, ↓reduceIte]
    have c92 := (walk50 v).call trivial
    rw [encV_eq] at c92
    simp only [go_sem, Nat.reduceAdd, Nat.reduceEqDiff, Nat.reduceBEq, Nat.reduceLeDiff, reduceCtorEq, ↓reduceIte]
    refine ⟨fun h4 => ?_, fun h4 => wps_call rfl c92 trivial ?_⟩
    · obtain rfl : x = 11 := by rw [← hx, if_pos h4]
      exact leaf (by decide) _
    rw [if_neg (by simp only [h4]; decide)] at hx
    simp only [go_sem, Nat.reduceAdd, Nat.reduceEqDiff, Nat.reduceBEq, Nat.reduceLeDiff, reduceCtorEq, ↓reduceIte]
    refine ⟨fun h5 => ?_, fun h5 => ?_⟩
    · obtain rfl : x = 3 := by rw [← hx, if_pos h5]
      exact leaf (by decide) _
    rw [if_neg (by simp [h5])] at hx
    obtain ⟨k1, k2⟩ : 1 ≤ v.kind ∧ v.kind ≤ 10 := by simp at h4; omega
    have hk : v.kind = 1 ∨ v.kind = 2 ∨ v.kind = 3 ∨ v.kind = 4 ∨ v.kind = 5 ∨ v.kind = 6 ∨ v.kind = 7 ∨ v.kind = 8 ∨ v.kind = 9 ∨ v.kind = 10 := by omega
    rcases hk with hk | hk | hk | hk | hk | hk | hk | hk | hk | hk
    · have cr := (walk99 v).call trivial
      have hr : ruleE v = btw v.int 0 1 := by simp [ruleE, hk]
      rw [encV_eq, hk, ← hr, hx] at cr
      simp only [hk, rulesD, go_sem, Int.reduceToNat, List.map_cons, List.map_nil, List.length_cons, List.length_nil, Nat.reduceAdd, Nat.reduceEqDiff, Nat.reduceBEq, Nat.reduceLeDiff, reduceCtorEq, ↓reduceIte]
      refine ⟨⟨by decide, by decide⟩, wps_call rfl cr trivial ?_⟩
      simp only [go_sem, Nat.reduceAdd, Nat.reduceEqDiff, Nat.reduceBEq, Nat.reduceLeDiff, reduceCtorEq, ↓reduceIte]
      exact ⟨fun h6 => leaf (by simpa using h6) _, fun h6 => leaf0 (by simpa using h6) _⟩
    · have cr := (walk101 v).call trivial
      have hr : ruleE v = btw v.int (-999999999999999) 999999999999999 := by simp [ruleE, hk]
      rw [encV_eq, hk, ← hr, hx] at cr
      simp only [hk, rulesD, go_sem, Int.reduceToNat, List.map_cons, List.map_nil, List.length_cons, List.length_nil, Nat.reduceAdd, Nat.reduceEqDiff, Nat.reduceBEq, Nat.reduceLeDiff, reduceCtorEq, ↓reduceIte]
      refine ⟨⟨by decide, by decide⟩, wps_call rfl cr trivial ?_⟩
      simp only [go_sem, Nat.reduceAdd, Nat.reduceEqDiff, Nat.reduceBEq, Nat.reduceLeDiff, reduceCtorEq, ↓reduceIte]
      exact ⟨fun h6 => leaf (by simpa using h6) _, fun h6 => leaf0 (by simpa using h6) _⟩
    · have cr := (walk102 v).call trivial
      have hr : ruleE v = fstE [btw v.int (-999999999999999) 999999999999999, btw v.scale 0 12] := by simp [ruleE, hk]
      rw [encV_eq, hk, ← hr, hx] at cr
      simp only [hk, rulesD, go_sem, Int.reduceToNat, List.map_cons, List.map_nil, List.length_cons, List.length_nil, Nat.reduceAdd, Nat.reduceEqDiff, Nat.reduceBEq, Nat.reduceLeDiff, reduceCtorEq, ↓reduceIte]
      refine ⟨⟨by decide, by decide⟩, wps_call rfl cr trivial ?_⟩
      simp only [go_sem, Nat.reduceAdd, Nat.reduceEqDiff, Nat.reduceBEq, Nat.reduceLeDiff, reduceCtorEq, ↓reduceIte]
      exact ⟨fun h6 => leaf (by simpa using h6) _, fun h6 => leaf0 (by simpa using h6) _⟩
    · have cr := (walk104 v).call trivial
      have hr : ruleE v = textE v := by simp [ruleE, hk]
      rw [encV_eq, hk, ← hr, hx] at cr
      simp only [hk, rulesD, go_sem, Int.reduceToNat, List.map_cons, List.map_nil, List.length_cons, List.length_nil, Nat.reduceAdd, Nat.reduceEqDiff, Nat.reduceBEq, Nat.reduceLeDiff, reduceCtorEq, ↓reduceIte]
      refine ⟨⟨by decide, by decide⟩, wps_call rfl cr trivial ?_⟩
      simp only [go_sem, Nat.reduceAdd, Nat.reduceEqDiff, Nat.reduceBEq, Nat.reduceLeDiff, reduceCtorEq, ↓reduceIte]
      exact ⟨fun h6 => leaf (by simpa using h6) _, fun h6 => leaf0 (by simpa using h6) _⟩
    · have cr := (walk107 v).call trivial
      have hr : ruleE v = szE v.text.length 1024 5 := by simp [ruleE, hk]
      rw [encV_eq, hk, ← hr, hx] at cr
      simp only [hk, rulesD, go_sem, Int.reduceToNat, List.map_cons, List.map_nil, List.length_cons, List.length_nil, Nat.reduceAdd, Nat.reduceEqDiff, Nat.reduceBEq, Nat.reduceLeDiff, reduceCtorEq, ↓reduceIte]
      refine ⟨⟨by decide, by decide⟩, wps_call rfl cr trivial ?_⟩
      simp only [go_sem, Nat.reduceAdd, Nat.reduceEqDiff, Nat.reduceBEq, Nat.reduceLeDiff, reduceCtorEq, ↓reduceIte]
      exact ⟨fun h6 => leaf (by simpa using h6) _, fun h6 => leaf0 (by simpa using h6) _⟩
    · have cr := (walk108 v).call trivial
      have hr : ruleE v = btw v.int (-719162) 2932896 := by simp [ruleE, hk]
      rw [encV_eq, hk, ← hr, hx] at cr
      simp only [hk, rulesD, go_sem, Int.reduceToNat, List.map_cons, List.map_nil, List.length_cons, List.length_nil, Nat.reduceAdd, Nat.reduceEqDiff, Nat.reduceBEq, Nat.reduceLeDiff, reduceCtorEq, ↓reduceIte]
      refine ⟨⟨by decide, by decide⟩, wps_call rfl cr trivial ?_⟩
      simp only [go_sem, Nat.reduceAdd, Nat.reduceEqDiff, Nat.reduceBEq, Nat.reduceLeDiff, reduceCtorEq, ↓reduceIte]
      exact ⟨fun h6 => leaf (by simpa using h6) _, fun h6 => leaf0 (by simpa using h6) _⟩
    · have cr := (walk109 v).call trivial
      have hr : ruleE v = btw v.int (-62135596800000) 253402300799999 := by simp [ruleE, hk]
      rw [encV_eq, hk, ← hr, hx] at cr
      simp only [hk, rulesD, go_sem, Int.reduceToNat, List.map_cons, List.map_nil, List.length_cons, List.length_nil, Nat.reduceAdd, Nat.reduceEqDiff, Nat.reduceBEq, Nat.reduceLeDiff, reduceCtorEq, ↓reduceIte]
      refine ⟨⟨by decide, by decide⟩, wps_call rfl cr trivial ?_⟩
      simp only [go_sem, Nat.reduceAdd, Nat.reduceEqDiff, Nat.reduceBEq, Nat.reduceLeDiff, reduceCtorEq, ↓reduceIte]
      exact ⟨fun h6 => leaf (by simpa using h6) _, fun h6 => leaf0 (by simpa using h6) _⟩
    · have cr := (walk110 v).call trivial
      have hr : ruleE v = szE v.list.length 256 9 := by simp [ruleE, hk]
      rw [encV_eq, hk, ← hr, hx] at cr
      simp only [hk, rulesD, go_sem, Int.reduceToNat, List.map_cons, List.map_nil, List.length_cons, List.length_nil, Nat.reduceAdd, Nat.reduceEqDiff, Nat.reduceBEq, Nat.reduceLeDiff, reduceCtorEq, ↓reduceIte]
      refine ⟨⟨by decide, by decide⟩, wps_call rfl cr trivial ?_⟩
      simp only [go_sem, Nat.reduceAdd, Nat.reduceEqDiff, Nat.reduceBEq, Nat.reduceLeDiff, reduceCtorEq, ↓reduceIte]
      exact ⟨fun h6 => leaf (by simpa using h6) _, fun h6 => leaf0 (by simpa using h6) _⟩
    · have cr := (walk111 v).call trivial
      have hr : ruleE v = recV v := by simp [ruleE, hk]
      rw [encV_eq, hk, ← hr, hx] at cr
      simp only [hk, rulesD, go_sem, Int.reduceToNat, List.map_cons, List.map_nil, List.length_cons, List.length_nil, Nat.reduceAdd, Nat.reduceEqDiff, Nat.reduceBEq, Nat.reduceLeDiff, reduceCtorEq, ↓reduceIte]
      refine ⟨⟨by decide, by decide⟩, wps_call rfl cr trivial ?_⟩
      simp only [go_sem, Nat.reduceAdd, Nat.reduceEqDiff, Nat.reduceBEq, Nat.reduceLeDiff, reduceCtorEq, ↓reduceIte]
      exact ⟨fun h6 => leaf (by simpa using h6) _, fun h6 => leaf0 (by simpa using h6) _⟩
    · have cr := (walk113 v).call trivial
      have hr : ruleE v = varE v := by simp [ruleE, hk]
      rw [encV_eq, hk, ← hr, hx] at cr
      simp only [hk, rulesD, go_sem, Int.reduceToNat, List.map_cons, List.map_nil, List.length_cons, List.length_nil, Nat.reduceAdd, Nat.reduceEqDiff, Nat.reduceBEq, Nat.reduceLeDiff, reduceCtorEq, ↓reduceIte]
      refine ⟨⟨by decide, by decide⟩, wps_call rfl cr trivial ?_⟩
      simp only [go_sem, Nat.reduceAdd, Nat.reduceEqDiff, Nat.reduceBEq, Nat.reduceLeDiff, reduceCtorEq, ↓reduceIte]
      exact ⟨fun h6 => leaf (by simpa using h6) _, fun h6 => leaf0 (by simpa using h6) _⟩
end Go.Proofs
/- value.visit, preorder, Check. -/
set_option linter.unusedSimpArgs false
set_option linter.unusedVariables false
set_option maxRecDepth 10000
namespace Go.Proofs
open Go Av

noncomputable abbrev upsL (c : Dat) (e x n : Int) : List (Nat × Av.Obj) := [(1000, afterL c x), (1002, .box [.d (.int .i64 (if x = 0 then e else x))]), (1004, .box [.d (.int .i64 n)])]
theorem closedU (c : Dat) (e n x m : Int) : closed (hputs (get (TL c e n)) (upsL c e x m)) := by
  refine closed_puts ?_
  simp only [upsL, TL]
  unfold afterL
  split <;> simp [TL, puts, put, closedH, objIn, idsInL, idsIn, idsInT, tmL, lpL, rulesD, Av.get]
theorem closedL (c : Dat) (e n : Int) : closed (get (TL c e n)) := by
  refine closed_of ?_
  simp [TL, closedH, objIn, idsInL, idsIn, idsInT, tmL, lpL, rulesD, Av.get]
theorem TL_dom {c : Dat} {e n : Int} {i : Nat} (h : (get (TL c e n) i).isSome = true) : i = 1000 ∨ i = 1002 ∨ i = 1003 ∨ i = 1004 := by
  simp only [TL, Av.get] at h
  split at h
  · rename_i e; exact .inl e.symm
  · split at h
    · rename_i e; exact .inr (.inl e.symm)
    · split at h
      · rename_i e; exact .inr (.inr (.inl e.symm))
      · split at h
        · rename_i e; exact .inr (.inr (.inr e.symm))
        · cases h
theorem ren_id_dat (ds : List Dat) : renL (fun i : Nat => i) (ds.map .d) = ds.map .d := by
  induction ds with
  | nil => rfl
  | cons d r ih => simp only [List.map_cons, renL, Av.ren, ih]

/-- a call of yield -/
theorem yield30 (c : Dat) (e n level : Int) (v : Val) (hn : 0 ≤ n ∧ n ≤ 4096) :
    CallOK Tryz.prog .yld [.mp 1000, .d (.int .i64 level), .d (encV v)] ((TL c e n).map fun x => (x.1, some x.2)) (.d (.bool (chkE (n + 1) level v == 0))) (upsL c e (chkE (n + 1) level v) (n + 1)) := by
  have := (round30 c e n level v hn).call (fun i => i) ⟨_, rfl⟩ (fun i j _ _ h => h) (by simp [idsIn]) (closedL c e n) [] (by simp [Av.get]) (closedU c e n _ _) trivial
  have ha : ∀ x, (afterL c x).ren (fun i => i) = afterL c x := by
    intro x
    unfold afterL
    split <;> simp [Obj.ren, renT, tmL, lpL, Av.ren]
  simp only [ha, upsL, List.map_cons, List.map_nil] at this
  simp only [TL, upsL, List.map_cons, List.map_nil, Obj.ren, Av.ren, renL, ren_id_dat, lpL, tmL, renT, List.append_nil] at this ⊢
  exact this

def foldV (f : Int → Val → Int × Int) : Int → List Val → Int × Int
  | n, [] => (0, n)
  | n, v :: r => if (f n v).1 ≠ 0 then f n v else foldV f (f n v).2 r
/-- the walk over a value: the error, the counter -/
def visF : Nat → Int → Val → Int × Int
  | 0, n, v => (chkE (n + 1) 9 v, n + 1)
  | k + 1, n, v => if chkE (n + 1) (8 - k) v ≠ 0 then (chkE (n + 1) (8 - k) v, n + 1) else foldV (visF k) (n + 1) (partsV v)

theorem chk9 (n : Int) (v : Val) : chkE n 9 v ≠ 0 := by
  unfold chkE
  split
  · decide
  · rw [if_pos (by decide)]; decide
theorem chk_n {n level : Int} {v : Val} (h : chkE n level v = 0) : n ≤ 4096 := by
  unfold chkE at h
  split at h
  · cases h
  · rename_i hx; simpa using hx
theorem foldV_n {f : Int → Val → Int × Int} (hf : ∀ n v, 0 ≤ n → n ≤ 4096 → (f n v).1 = 0 → 0 ≤ (f n v).2 ∧ (f n v).2 ≤ 4096) : ∀ (l : List Val) (n : Int), 0 ≤ n → n ≤ 4096 → (foldV f n l).1 = 0 → 0 ≤ (foldV f n l).2 ∧ (foldV f n l).2 ≤ 4096
  | [], n, h0, h1, h => ⟨h0, h1⟩
  | v :: r, n, h0, h1, h => by
    simp only [foldV] at h ⊢
    split at h
    · rename_i hx; exact absurd h hx
    · rename_i hx
      rw [if_neg hx]
      simp only [ne_eq, Decidable.not_not] at hx
      obtain ⟨q0, q1⟩ := hf n v h0 h1 hx
      exact foldV_n hf r _ q0 q1 h
theorem visF_n : ∀ (k : Nat) (n : Int) (v : Val), 0 ≤ n → n ≤ 4096 → (visF k n v).1 = 0 → 0 ≤ (visF k n v).2 ∧ (visF k n v).2 ≤ 4096
  | 0, n, v, h0, h1, h => absurd h (chk9 _ _)
  | k + 1, n, v, h0, h1, h => by
    simp only [visF] at h ⊢
    split at h
    · rename_i hx; exact absurd h hx
    · rename_i hx
      rw [if_neg hx]
      simp only [ne_eq, Decidable.not_not] at hx
      exact foldV_n (visF_n k) _ _ (by omega) (chk_n hx) h

theorem stop177 (c : Dat) (e n level : Int) (v : Val) (h0 : 0 ≤ n) (h1 : n ≤ 4096) (hx : chkE (n + 1) level v ≠ 0) :
    Con Tryz.prog 115 [.d (encV v), .d (.int .i64 level), .mp 1000] (TL c e n) (.d (.bool false)) (upsL c e (chkE (n + 1) level v) (n + 1)) := by
  refine ok115.con (k := false) (Nat.le_of_ble_eq_true rfl) (closedU c e n _ _) trivial ?_
  have hy := yield30 c e n level v ⟨h0, h1⟩
  have hb : (chkE (n + 1) level v == 0) = false := by simp [hx]
  rw [encV_eq] at hy ⊢
  rw [hb] at hy
  simp only [TL, go_sem, ir115, Nat.reduceAdd, Nat.reduceEqDiff, Nat.reduceBEq, Nat.reduceLeDiff, reduceCtorEq, ↓reduceIte]
  refine wps_call rfl hy ⟨rfl, rfl, rfl, rfl, trivial⟩ ?_
  simp only [go_sem, Nat.reduceAdd, Nat.reduceEqDiff, Nat.reduceBEq, Nat.reduceLeDiff, reduceCtorEq, ↓reduceIte]
  exact ⟨fun _ => trivial, fun h => by cases h⟩

theorem call115 {c : Dat} {level e n x m : Int} {v : Val} (h : Con Tryz.prog 115 [.d (encV v), .d (.int .i64 level), .mp 1000] (TL c e n) (.d (.bool (x == 0))) (upsL c e x m)) :
    CallOK Tryz.prog 115 [.d (encV v), .d (.int .i64 level), .mp 1000] ((TL c e n).map fun x => (x.1, some x.2)) (.d (.bool (x == 0))) (upsL c e x m) := by
  have := h.call (fun i => i) (fun i hi => by rcases TL_dom hi with rfl | rfl | rfl | rfl <;> decide) (fun i j _ _ h => h) (by simp [idsIn, Av.get]) (closedL c e n) [] (by simp [Av.get]) (closedU c e n _ _) trivial
  have ha : ∀ x, (afterL c x).ren (fun i => i) = afterL c x := by
    intro x
    unfold afterL
    split <;> simp [Obj.ren, renT, tmL, lpL, Av.ren]
  simp only [ha, upsL, List.map_cons, List.map_nil] at this
  simp only [TL, upsL, List.map_cons, List.map_nil, Obj.ren, Av.ren, renL, ren_id_dat, lpL, tmL, renT, List.append_nil] at this ⊢
  exact this

theorem walk115 (c : Dat) : ∀ (k : Nat) (e n : Int) (v : Val), k ≤ 8 → 0 ≤ n → n ≤ 4096 →
    Con Tryz.prog 115 [.d (encV v), .d (.int .i64 (9 - k)), .mp 1000] (TL c e n) (.d (.bool ((visF k n v).1 == 0))) (upsL c e (visF k n v).1 (visF k n v).2) := by
  intro k
  induction k with
  | zero =>
    intro e n v hk h0 h1
    have hb : (chkE (n + 1) 9 v == 0) = false := by simp [chk9]
    simp only [visF, hb]
    exact stop177 c e n 9 v h0 h1 (chk9 _ _)
  | succ k ih =>
    intro e n v hk h0 h1
    have hl : 9 - ((k + 1 : Nat) : Int) = 8 - k := by omega
    rw [hl]
    by_cases hx : chkE (n + 1) (8 - k) v = 0
    · refine Con.of_fits ok115.has fun hfit => ?_
      obtain ⟨_, f2, f3, _⟩ := fits_V (hfit (encV v) (by simp))
      have hv : visF (k + 1) n v = foldV (visF k) (n + 1) (partsV v) := by rw [visF, if_neg (by simp [hx])]
      rw [hv]
      generalize hF : foldV (visF k) (n + 1) (partsV v) = F
      refine ok115.con (k := false) (Nat.le_of_ble_eq_true rfl) (closedU c e n _ _) trivial ?_
      have hy := yield30 c e n (8 - k) v ⟨h0, h1⟩
      have h217 := (walk167 v f3).call trivial
      have hpl := partsV_len v f2 f3
      rw [hx] at hy
      have hm := chk_n hx
      rw [encV_eq] at hy h217 ⊢
      simp only [TL, go_sem, ir115, Nat.reduceAdd, Nat.reduceEqDiff, Nat.reduceBEq, Nat.reduceLeDiff, reduceCtorEq, ↓reduceIte]
      refine wps_call rfl hy ⟨rfl, rfl, rfl, rfl, trivial⟩ ?_
      simp only [go_sem, afterL, beq_self_eq_true, Bool.not_true, Nat.reduceAdd, Nat.reduceEqDiff, Nat.reduceBEq, Nat.reduceLeDiff, reduceCtorEq, ↓reduceIte]
      refine wps_call rfl h217 trivial ?_
      simp only [go_sem, Nat.reduceAdd, Nat.reduceEqDiff, Nat.reduceBEq, Nat.reduceLeDiff, reduceCtorEq, ↓reduceIte]
      clear h217 hy hv hfit
      generalize hP : partsV v = ps at *
      simp only [List.length_map]
      refine wpc_loop (fun r s => ∃ (j : Nat) (m : Int), j ≤ ps.length ∧ r = ps.length - j ∧ 0 ≤ m ∧ m ≤ 4096 ∧ foldV (visF k) m (ps.drop j) = F ∧
        s = ⟨[(1, .d (.int .i64 (8 - k))), (2, .mp 1000), (15, .d (.list 6 (ps.map encV))), (16, .d (.int .i64 ps.length)), (17, .d (.int .i64 j))],
          [(1000, .lp (lpL (tmL c) .ready none)), (1002, .box [.d (.int .i64 e)]), (1003, .box (rulesD.map .d)), (1004, .box [.d (.int .i64 m)])]⟩) ?_ ?_
      · refine ⟨_, _, Wk.less ?_, 0, n + 1, Nat.zero_le _, rfl, by omega, hm, hF, rfl⟩
        simp [go_sem, lpL, tmL, rulesD]
      · rintro r s ⟨j, m, hj, rfl, hm0, hm1, hinv, rfl⟩
        by_cases hlt : j < ps.length
        · have hx' := nth_encV hlt
          have hd : decide ((j : Int) < (ps.length : Int)) = true := by simp; omega
          have hw : IntKind.i64.wrap (8 - (k : Int) + 1) = 9 - k := by rw [wrap64 (by omega) (by omega)]; omega
          have hc := call115 (ih e m ps[j] (by omega) hm0 hm1)
          have hn := visF_n k m ps[j] hm0 hm1
          rw [List.drop_eq_getElem_cons hlt, foldV] at hinv
          generalize hV : visF k m ps[j] = V at *
          rw [encV_eq] at hc
          simp only [go_sem, hx', hd, hw, Int.toNat_natCast, List.length_map, Nat.reduceAdd, Nat.reduceEqDiff, Nat.reduceBEq, Nat.reduceLeDiff, reduceCtorEq, ↓reduceIte]
          refine ⟨by omega, wps_call rfl hc ⟨rfl, rfl, rfl, rfl, trivial⟩ ?_⟩
          by_cases h0 : V.1 = 0
          · rw [if_neg (by simp [h0])] at hinv
            simp only [go_sem, h0, afterL, beq_self_eq_true, Bool.not_true, Nat.reduceAdd, Nat.reduceEqDiff, Nat.reduceBEq, Nat.reduceLeDiff, reduceCtorEq, ↓reduceIte]
            refine ⟨ps.length - (j + 1), _, by omega, Wk.less ?_, j + 1, V.2, by omega, rfl, (hn h0).1, (hn h0).2, hinv, rfl⟩
            simp [go_sem, wrap64s j (by omega), lpL, tmL, rulesD]
          · rw [if_pos h0] at hinv
            have hb : (V.1 == 0) = false := by simp [h0]
            subst hinv
            simp only [go_sem, hb, Bool.not_false, Nat.reduceAdd, Nat.reduceEqDiff, Nat.reduceBEq, Nat.reduceLeDiff, reduceCtorEq, ↓reduceIte]
        · have hd : decide ((j : Int) < (ps.length : Int)) = false := by simp; omega
          obtain rfl : j = ps.length := by omega
          rw [List.drop_length, foldV] at hinv
          subst hinv
          simp only [go_sem, hd, afterL, beq_self_eq_true, Bool.not_true, Nat.reduceAdd, Nat.reduceEqDiff, Nat.reduceBEq, Nat.reduceLeDiff, reduceCtorEq, ↓reduceIte]
    · have hb : (chkE (n + 1) (8 - k) v == 0) = false := by simp [hx]
      have hv : visF (k + 1) n v = (chkE (n + 1) (8 - k) v, n + 1) := by rw [visF, if_pos hx]
      rw [hv]
      simp only [hb]
      exact stop177 c e n _ v h0 h1 hx

def chkV (v : Val) : Int := (visF 8 0 v).1

theorem walk114 (v : Val) (c : Dat) (e : Int) :
    Con Tryz.prog 114 [.mp 1000, .d (.ptr (encV v).cells)] (TL c e 0) (.tup []) (upsL c e (visF 8 0 v).1 (visF 8 0 v).2) := by
  refine ok114.con (k := false) (Nat.le_of_ble_eq_true rfl) (closedU c e 0 _ _) trivial ?_
  have hc := call115 (walk115 c 8 e 0 v (by decide) (by decide) (by decide))
  rw [encV_eq] at hc ⊢
  simp only [TL, go_sem, ir114, Nat.reduceAdd, Nat.reduceEqDiff, Nat.reduceBEq, Nat.reduceLeDiff, reduceCtorEq, ↓reduceIte]
  have e1 : (9 : Int) - ((8 : Nat) : Int) = 1 := rfl
  rw [e1] at hc
  refine wps_call rfl hc ⟨rfl, rfl, rfl, rfl, trivial⟩ ?_
  simp only [go_sem, Nat.reduceAdd, Nat.reduceEqDiff, Nat.reduceBEq, Nat.reduceLeDiff, reduceCtorEq, ↓reduceIte]

/-- the loop's record and what it reads, at the caller -/
noncomputable def lp30 (c : Dat) (s : LoopState) (j : Option Code) : Av.Obj := .lp ⟨[(2, .ref 2 0), (3, .ref 3 0), (4, .ref 4 0), (10, .d c)], 46, #[11, 12], subC (codeOf Tryz.f15) [1, 1, 1, 0, 1, 0, 0], subC (codeOf Tryz.f15) [1, 1, 1, 0, 1, 0, 1], s, j⟩
theorem call114 (v : Val) (c : Dat) (e : Int) :
    CallOK Tryz.prog 114 [.mp 57, .d (.ptr (encV v).cells)] [(57, some (lp30 c .ready none)), (2, some (.box [.d (.int .i64 e)])), (3, some (.box (rulesD.map .d))), (4, some (.box [.d (.int .i64 0)]))] (.tup [])
      [(57, if (visF 8 0 v).1 = 0 then lp30 c .ready none else lp30 c .done (some .ret)), (2, .box [.d (.int .i64 (if (visF 8 0 v).1 = 0 then e else (visF 8 0 v).1))]), (4, .box [.d (.int .i64 (visF 8 0 v).2)])] := by
  have hd : ∀ i x m, (hputs (get (TL c e 0)) (upsL c e x m) i).isSome = true → i = 1000 ∨ i = 1002 ∨ i = 1003 ∨ i = 1004 := by
    intro i x m h
    rw [← get_puts] at h
    have : (get (TL c e 0) i).isSome = true := by
      simp only [TL, upsL, puts, put, Nat.reduceAdd, Nat.reduceEqDiff, Nat.reduceBEq, Nat.reduceLeDiff, reduceCtorEq, ↓reduceIte] at h
      simp only [Av.get] at h ⊢
      split at h
      · simp [*]
      · split at h
        · simp [*]
        · split at h
          · simp [*]
          · split at h
            · simp [*]
            · cases h
    exact TL_dom this
  have := (walk114 v c e).call (fun i => if i = 1000 then 57 else i - 1000) (fun i hi => by rcases TL_dom hi with rfl | rfl | rfl | rfl <;> decide)
    (fun i j hi hj h => by rcases hd i _ _ hi with rfl | rfl | rfl | rfl <;> rcases hd j _ _ hj with rfl | rfl | rfl | rfl <;> first | rfl | simp at h) (by simp [idsIn, Av.get]) (closedL c e 0) [] (by simp [Av.get]) (closedU c e 0 _ _) trivial
  have ha : ∀ x, (afterL c x).ren (fun i => if i = 1000 then 57 else i - 1000) = if x = 0 then lp30 c .ready none else lp30 c .done (some .ret) := by
    intro x
    unfold afterL
    split <;> simp [Obj.ren, renT, tmL, lpL, lp30, Av.ren]
  have hr : (Obj.box (rulesD.map .d)).ren (fun i => if i = 1000 then 57 else i - 1000) = .box (rulesD.map .d) := rfl
  simp only [ha, hr, TL, upsL, List.map_cons, List.map_nil] at this
  simp only [List.map_cons, List.map_nil, Obj.ren, Av.ren, renL, lpL, tmL, renT, List.append_nil, Nat.reduceSub, Nat.reduceAdd, Nat.reduceEqDiff, Nat.reduceBEq, Nat.reduceLeDiff, reduceCtorEq, ↓reduceIte] at this
  exact this

/-- a loop over a function, with the contract of that function -/
theorem wpc_rng {P : Program} {D : Nat → Prop} {f : Opd} {N lid : Nat} {ps : Array Nat} {c1 c2 : Code} {asg body : Ic} {Q : Exit → St → Prop} {st : St} {g : Nat} {vs : List Av} {T : List (Nat × Option Av.Obj)} {v : Av}
    {ups : List (Nat × Av.Obj)} {l : Lp} (hno : get st.hp lid = none) (ht : targetV (get st.tm) (.dyn f) [.mp lid] = some (.fn g, vs)) (hh : Has P g) (hc : CallOK P g vs T v ups)
    (hT : tgets (Av.upd (get st.hp) lid (some (.lp ⟨st.tm, N, ps, c1, c2, .ready, none⟩))) T) (hl : hputs (Av.upd (get st.hp) lid (some (.lp ⟨st.tm, N, ps, c1, c2, .ready, none⟩))) ups lid = some (.lp l)) (hb : l.s ≠ .busy)
    (hj : (l.j = none ∧ Q .normal ⟨st.tm, put (puts st.hp ups) lid .gone⟩) ∨ (l.j = some .ret ∧ Q .ret ⟨st.tm, put (puts st.hp ups) lid .gone⟩)) : wpc P D (.rng f N lid ps c1 c2 asg body) Q st := by
  simp only [wpc]
  refine ⟨hno, fun _ _ => ?_⟩
  rw [ht]
  refine ⟨T, v, ups, hh, hc, hT, put (puts st.hp ups) lid .gone, l, fun i hi => by rw [get_put, if_neg hi, get_puts], by rw [get_put, if_pos rfl], hl, hb, ?_⟩
  rcases hj with ⟨h, q⟩ | ⟨h, q⟩ <;> rw [h] <;> exact q

theorem walk15 (v : Val) : PCon Tryz.prog 15 [encV v] (.d (.int .i64 (chkV v))) := by
  refine ok15.pcon (Nat.le_of_ble_eq_true rfl) trivial ?_
  have h91 := (walk49 v).call trivial
  have h90 := walk48.call trivial
  have h176 := call114 v (.fn (.func 114) [] [.ptr (encV v).cells]) 0
  rw [encV_eq] at h91 h176 ⊢
  simp only [go_sem, ir15, Nat.reduceAdd, Nat.reduceEqDiff, Nat.reduceBEq, Nat.reduceLeDiff, reduceCtorEq, ↓reduceIte]
  refine wps_call rfl h90 trivial ?_
  simp only [rulesD, go_sem, Nat.reduceAdd, Nat.reduceEqDiff, Nat.reduceBEq, Nat.reduceLeDiff, reduceCtorEq, ↓reduceIte]
  refine wps_call rfl h91 trivial ?_
  simp only [go_sem, Nat.reduceAdd, Nat.reduceEqDiff, Nat.reduceBEq, Nat.reduceLeDiff, reduceCtorEq, ↓reduceIte]
  by_cases hx : (visF 8 0 v).1 = 0
  · simp only [hx, ↓reduceIte] at h176
    refine wpc_rng rfl rfl ok114.has h176 ⟨rfl, rfl, rfl, rfl, trivial⟩ rfl (by simp) (.inl ⟨rfl, ?_⟩)
    simp only [go_sem, chkV, hx, Nat.reduceAdd, Nat.reduceEqDiff, Nat.reduceBEq, Nat.reduceLeDiff, reduceCtorEq, ↓reduceIte]
  · simp only [hx, ↓reduceIte] at h176
    refine wpc_rng rfl rfl ok114.has h176 ⟨rfl, rfl, rfl, rfl, trivial⟩ rfl (by simp) (.inr ⟨rfl, ?_⟩)
    simp only [go_sem, chkV, Nat.reduceAdd, Nat.reduceEqDiff, Nat.reduceBEq, Nat.reduceLeDiff, reduceCtorEq, ↓reduceIte]
end Go.Proofs
