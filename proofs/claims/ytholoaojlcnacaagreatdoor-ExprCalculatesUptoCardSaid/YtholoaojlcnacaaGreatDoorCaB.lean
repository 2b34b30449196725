/- The zero value. -/
import Derived.Test.YtholoaojlcnacaaGreatDoorWalkA
import Derived.Test.YtholoaojlcnacaaGreatDoorCaA
import Derived.Test.YtholoaojlcnacaaGreatDoorAvD
import Derived.Test.YtholoaojlcnacaaGreatDoorFormsC
set_option linter.unusedVariables false
set_option linter.unusedSimpArgs false
set_option linter.unusedSectionVars false
namespace Go.Proofs
open Go Av
def zeroV : Val := .mk 0 0 0 [] [] []
end Go.Proofs
/- The machine that evaluates expressions: its small methods. -/
set_option linter.unusedSimpArgs false
set_option linter.unusedVariables false
set_option maxRecDepth 10000
namespace Go.Proofs
open Go Av

/-- the machine's variables: the environment, the first error -/
def mC (env : Val) (x : Int) : List Dat := [.int .i64 env.kind, .int .i64 env.int, .int .i64 env.scale, .str env.text, .list 6 (env.list.map encV), .list 7 (env.fields.map encF), .int .i64 x]
abbrev mO (env : Val) (x : Int) : Av.Obj := .box ((mC env x).map .d)
theorem mO_closed (env : Val) (x y : Int) : closed (hputs (get [(1000, mO env x)]) [(1000, mO env y)]) := closed_puts (by simp [puts, put, closedH, objIn, idsInL_dats])
/-- a method of the machine: what it answers, the error behind it -/
abbrev MCon (f : Nat) (ds : List Dat) (env : Val) (x : Int) (v : Av) (y : Int) : Prop := Con Tryz.prog f (.ref 1000 0 :: ds.map .d) [(1000, mO env x)] v [(1000, mO env y)]
theorem MCon.to {f : Nat} {ds : List Dat} {env : Val} {x y : Int} {v : Av} (h : MCon f ds env x v y) (hv : pureR v) : CallOK Tryz.prog f (.ref 1000 0 :: ds.map .d) [(1000, some (mO env x))] v [(1000, mO env y)] := Con.rw1 h hv 1000

def failE (x y : Int) : Int := if x == 0 then y else x
theorem walk126 (env : Val) (x y : Int) : MCon 126 [.int .i64 y] env x (.d (encV zeroV)) (failE x y) := by
  refine ok126.con (k := false) (Nat.le_of_ble_eq_true rfl) (mO_closed _ _ _) trivial ?_
  simp only [go_sem, ir126, mC, List.map_cons, List.map_nil, Nat.reduceAdd, Nat.reduceEqDiff, Nat.reduceBEq, Nat.reduceLeDiff, reduceCtorEq, ↓reduceIte]
  refine ⟨fun h => ?_, fun h => ?_⟩
  · simp only [failE, h, ↓reduceIte]
    exact ⟨rfl, rfl⟩
  · simp only [failE, h, Bool.false_eq_true, ↓reduceIte]
    exact ⟨rfl, trivial⟩

def isN (v : Val) : Bool := (v.kind == 2) || (v.kind == 3)
theorem walk176 (v : Val) : PCon Tryz.prog 176 [encV v] (.d (.bool (isN v))) := by
  refine ok176.pcon (Nat.le_of_ble_eq_true rfl) trivial ?_
  rw [encV_eq]
  simp only [go_sem, ir176, Nat.reduceAdd, Nat.reduceEqDiff, Nat.reduceBEq, Nat.reduceLeDiff, reduceCtorEq, ↓reduceIte]
  refine scQ_pure (v.kind == 3) (fun _ => ?_) ?_
  · simp only [go_sem, Nat.reduceAdd, Nat.reduceEqDiff, Nat.reduceBEq, Nat.reduceLeDiff, reduceCtorEq, ↓reduceIte]
  simp only [go_sem, isN, Nat.reduceAdd, Nat.reduceEqDiff, Nat.reduceBEq, Nat.reduceLeDiff, reduceCtorEq, ↓reduceIte]
def ofN (v : Val) : Int × Int := if v.kind == 2 then (v.int, 0) else (v.int, v.scale)
theorem walk177 (v : Val) : PCon Tryz.prog 177 [encV v] (.d (encN (ofN v))) := by
  refine ok177.pcon (Nat.le_of_ble_eq_true rfl) trivial ?_
  rw [encV_eq]
  simp only [go_sem, ir177, encN, Nat.reduceAdd, Nat.reduceEqDiff, Nat.reduceBEq, Nat.reduceLeDiff, reduceCtorEq, ↓reduceIte]
  refine ⟨fun h => ?_, fun h => ?_⟩
  · simp only [ofN, h, ↓reduceIte]
  · simp only [ofN, h, Bool.false_eq_true, ↓reduceIte]
def boolV (b : Bool) : Val := if b then .mk 1 1 0 [] [] [] else .mk 1 0 0 [] [] []
theorem walk123 (b : Bool) : PCon Tryz.prog 123 [.bool b] (.d (encV (boolV b))) := by
  refine ok123.pcon (Nat.le_of_ble_eq_true rfl) trivial ?_
  cases b
  · simp only [go_sem, ir123, boolV, Nat.reduceAdd, Nat.reduceEqDiff, Nat.reduceBEq, Nat.reduceLeDiff, reduceCtorEq, ↓reduceIte]
    rfl
  · simp only [go_sem, ir123, boolV, Nat.reduceAdd, Nat.reduceEqDiff, Nat.reduceBEq, Nat.reduceLeDiff, reduceCtorEq, ↓reduceIte]
    rfl
theorem walk36 (n : Int) : PCon Tryz.prog 36 [.int .i64 n] (.d (encV (.mk 2 n 0 [] [] []))) := by
  refine ok36.pcon (Nat.le_of_ble_eq_true rfl) trivial ?_
  simp only [go_sem, ir36, Nat.reduceAdd, Nat.reduceEqDiff, Nat.reduceBEq, Nat.reduceLeDiff, reduceCtorEq, ↓reduceIte]
  rfl
theorem walk57 (n s : Int) : PCon Tryz.prog 57 [.int .i64 n, .int .i64 s] (.d (encV (.mk 3 n s [] [] []))) := by
  refine ok57.pcon (Nat.le_of_ble_eq_true rfl) trivial ?_
  simp only [go_sem, ir57, Nat.reduceAdd, Nat.reduceEqDiff, Nat.reduceBEq, Nat.reduceLeDiff, reduceCtorEq, ↓reduceIte]
  rfl
def numV (wh : Bool) (n : Int × Int) (er : Int) : Val := if er != 0 then zeroV else if wh then .mk 2 n.1 0 [] [] [] else .mk 3 n.1 n.2 [] [] []
def numE (er x : Int) : Int := if er != 0 then failE x er else x
theorem walk181 (wh : Bool) (n : Int × Int) (er : Int) (env : Val) (x : Int) : MCon 181 [.bool wh, encN n, .int .i64 er] env x (.d (encV (numV wh n er))) (numE er x) := by
  refine ok181.con (k := false) (Nat.le_of_ble_eq_true rfl) (mO_closed _ _ _) trivial ?_
  have c126 := (walk126 env x er).to trivial
  have c36 := (walk36 n.1).call trivial
  have c57 := (walk57 n.1 n.2).call trivial
  simp only [go_sem, ir181, mC, encN, List.map_cons, List.map_nil, Nat.reduceAdd, Nat.reduceEqDiff, Nat.reduceBEq, Nat.reduceLeDiff, reduceCtorEq, ↓reduceIte]
  refine ⟨fun h => ?_, fun h => ?_⟩
  · simp only [numV, numE, h, ↓reduceIte]
    refine wps_call rfl c126 ⟨rfl, trivial⟩ ?_
    generalize zeroV = z at *
    rw [encV_eq]
    simp only [go_sem, mC, List.map_cons, List.map_nil, Nat.reduceAdd, Nat.reduceEqDiff, Nat.reduceBEq, Nat.reduceLeDiff, reduceCtorEq, ↓reduceIte]
    try exact ⟨rfl, rfl⟩
  · simp only [numV, numE, h, Bool.false_eq_true, ↓reduceIte]
    cases wh
    · simp only [go_sem, Bool.false_eq_true, Nat.reduceAdd, Nat.reduceEqDiff, Nat.reduceBEq, Nat.reduceLeDiff, reduceCtorEq, ↓reduceIte]
      refine wps_call rfl c57 trivial ?_
      rw [encV_eq]
      simp only [go_sem, mC, List.map_cons, List.map_nil, Nat.reduceAdd, Nat.reduceEqDiff, Nat.reduceBEq, Nat.reduceLeDiff, reduceCtorEq, ↓reduceIte]
      try exact ⟨rfl, rfl⟩
    · simp only [go_sem, Nat.reduceAdd, Nat.reduceEqDiff, Nat.reduceBEq, Nat.reduceLeDiff, reduceCtorEq, ↓reduceIte]
      refine wps_call rfl c36 trivial ?_
      rw [encV_eq]
      simp only [go_sem, mC, List.map_cons, List.map_nil, Nat.reduceAdd, Nat.reduceEqDiff, Nat.reduceBEq, Nat.reduceLeDiff, reduceCtorEq, ↓reduceIte]
      try exact ⟨rfl, rfl⟩
end Go.Proofs
/- decimal.Sub, Mul; the machine's arithmetic. -/
set_option linter.unusedSimpArgs false
set_option linter.unusedVariables false
set_option maxRecDepth 10000
namespace Go.Proofs
open Go Av

def subN (a b : Int × Int) : (Int × Int) × Int := if fstN [a, b] ≠ 0 then ((0, 0), fstN [a, b]) else addN a (IntKind.i64.wrap (0 - b.1), b.2)
theorem walk182 (a b : Int × Int) : PCon Tryz.prog 182 [encN a, encN b] (.tup [.d (encN (subN a b).1), .d (.int .i64 (subN a b).2)]) := by
  refine ok182.pcon (Nat.le_of_ble_eq_true rfl) (by simp [inTR, idsIn, idsInL]) ?_
  have h59 := (walk59 [a, b] (by simp)).call trivial
  simp only [List.map_cons, List.map_nil, encN] at h59
  by_cases hf : fstN [a, b] = 0
  · have h22 := (walk22 a (IntKind.i64.wrap (0 - b.1), b.2)).call (by simp [pureR])
    have hT : subN a b = addN a (IntKind.i64.wrap (0 - b.1), b.2) := by rw [subN, if_neg (by simp [hf])]
    rw [hT]
    generalize addN a (IntKind.i64.wrap (0 - b.1), b.2) = T at *
    rw [hf] at h59
    have q0 : ((0 : Int) != 0) = false := rfl
    simp only [encN] at h22
    simp only [go_sem, ir182, encN, Nat.reduceAdd, Nat.reduceEqDiff, Nat.reduceBEq, Nat.reduceLeDiff, reduceCtorEq, ↓reduceIte]
    refine ⟨by simp, wps_call rfl h59 trivial ?_⟩
    simp only [go_sem, q0, Nat.reduceAdd, Nat.reduceEqDiff, Nat.reduceBEq, Nat.reduceLeDiff, reduceCtorEq, ↓reduceIte]
    refine wps_call rfl h22 trivial ?_
    simp only [go_sem, Nat.reduceAdd, Nat.reduceEqDiff, Nat.reduceBEq, Nat.reduceLeDiff, reduceCtorEq, ↓reduceIte]
  · have hT : subN a b = ((0, 0), fstN [a, b]) := by rw [subN, if_pos hf]
    rw [hT]
    have q0 : (fstN [a, b] != 0) = true := by simp [hf]
    generalize fstN [a, b] = F at *
    simp only [go_sem, ir182, encN, Nat.reduceAdd, Nat.reduceEqDiff, Nat.reduceBEq, Nat.reduceLeDiff, reduceCtorEq, ↓reduceIte]
    refine ⟨by simp, wps_call rfl h59 trivial ?_⟩
    simp only [go_sem, q0, Nat.reduceAdd, Nat.reduceEqDiff, Nat.reduceBEq, Nat.reduceLeDiff, reduceCtorEq, ↓reduceIte]
def bigN (a b : Int × Int) : Bool := decide (IntKind.i64.wrap (a.2 + b.2) > 12) || ((b.1 != 0) && decide (absW a.1 > IntKind.i64.wrap (Int.tdiv 999999999999999 (absW b.1))))
def mulN (a b : Int × Int) : (Int × Int) × Int := if fstN [a, b] ≠ 0 then ((0, 0), fstN [a, b]) else if bigN a b then ((0, 0), 14) else fitN (IntKind.i64.wrap (a.1 * b.1)) (IntKind.i64.wrap (a.2 + b.2))
theorem walk183 (a b : Int × Int) : PCon Tryz.prog 183 [encN a, encN b] (.tup [.d (encN (mulN a b).1), .d (.int .i64 (mulN a b).2)]) := by
  refine ok183.pcon (Nat.le_of_ble_eq_true rfl) (by simp [inTR, idsIn, idsInL]) ?_
  have h59 := (walk59 [a, b] (by simp)).call trivial
  simp only [List.map_cons, List.map_nil, encN] at h59
  by_cases hf : fstN [a, b] = 0
  · have hv := fstN_ok hf
    have hb := chkN_ok (hv b (by simp))
    generalize hT : mulN a b = T
    rw [mulN, if_neg (by simp [hf])] at hT
    have h65 := (walk65 (IntKind.i64.wrap (a.1 * b.1)) (IntKind.i64.wrap (a.2 + b.2))).call (by simp [pureR])
    rw [hf] at h59
    have q0 : ((0 : Int) != 0) = false := rfl
    simp only [go_sem, ir183, encN, Nat.reduceAdd, Nat.reduceEqDiff, Nat.reduceBEq, Nat.reduceLeDiff, reduceCtorEq, ↓reduceIte]
    refine ⟨by simp, wps_call rfl h59 trivial ?_⟩
    simp only [go_sem, q0, Nat.reduceAdd, Nat.reduceEqDiff, Nat.reduceBEq, Nat.reduceLeDiff, reduceCtorEq, ↓reduceIte]
    refine ⟨(b.1 != 0) && decide (absW a.1 > IntKind.i64.wrap (Int.tdiv 999999999999999 (absW b.1))), [(2, .box [.d (.int .i64 a.1), .d (.int .i64 a.2)]), (3, .box [.d (.int .i64 b.1), .d (.int .i64 b.2)]), (4, .box [.d (.int .i64 0), .d (.int .i64 0)])],
      ([], []) :: ([3], []) :: ([], []) :: ([], []) :: ([([], []), ([2], []), ([], []), ([], []), ([3], []), ([], []), ([], []), ([], [])] ++ [([], [])]), rfl, fun h1 => ?_, fun _ => rfl, rfl, ?_⟩
    · refine ⟨decide (absW a.1 > IntKind.i64.wrap (Int.tdiv 999999999999999 (absW b.1))), [(2, .box [.d (.int .i64 a.1), .d (.int .i64 a.2)]), (3, .box [.d (.int .i64 b.1), .d (.int .i64 b.2)]), (4, .box [.d (.int .i64 0), .d (.int .i64 0)])], [([], []), ([2], []), ([], []), ([], []), ([3], []), ([], []), ([], []), ([], [])], rfl, fun h2 => ?_, fun _ => rfl, rfl, rfl, rfl⟩
      have hb0 : b.1 ≠ 0 := by simpa using h2
      have hp0 := (absW_pos hb0 hb.2.2.1 hb.2.2.2).1
      have hne : absW b.1 ≠ 0 := by omega
      refine wpsL_call rfl ((walk58 a.1).call trivial) trivial ?_
      simp only [go_sem, Nat.reduceAdd, Nat.reduceEqDiff, Nat.reduceBEq, Nat.reduceLeDiff, reduceCtorEq, ↓reduceIte]
      refine wpsL_call rfl ((walk58 b.1).call trivial) trivial ?_
      simp only [go_sem, Nat.reduceAdd, Nat.reduceEqDiff, Nat.reduceBEq, Nat.reduceLeDiff, reduceCtorEq, ↓reduceIte]
      exact hne
    simp only [go_sem, Nat.reduceAdd, Nat.reduceEqDiff, Nat.reduceBEq, Nat.reduceLeDiff, reduceCtorEq, ↓reduceIte]
    have hbig : bigN a b = (decide (IntKind.i64.wrap (a.2 + b.2) > 12) || ((b.1 != 0) && decide (absW a.1 > IntKind.i64.wrap (Int.tdiv 999999999999999 (absW b.1))))) := rfl
    rw [← hbig]
    refine ⟨fun h => ?_, fun h => ?_⟩
    · rw [if_pos h] at hT
      rw [← hT]
    · rw [if_neg (by rw [h]; exact Bool.false_ne_true)] at hT
      rw [hT] at h65
      refine wps_call rfl h65 trivial ?_
      simp only [go_sem, encN, Nat.reduceAdd, Nat.reduceEqDiff, Nat.reduceBEq, Nat.reduceLeDiff, reduceCtorEq, ↓reduceIte]
  · have hT : mulN a b = ((0, 0), fstN [a, b]) := by rw [mulN, if_pos hf]
    rw [hT]
    have q0 : (fstN [a, b] != 0) = true := by simp [hf]
    generalize fstN [a, b] = F at *
    simp only [go_sem, ir183, encN, Nat.reduceAdd, Nat.reduceEqDiff, Nat.reduceBEq, Nat.reduceLeDiff, reduceCtorEq, ↓reduceIte]
    refine ⟨by simp, wps_call rfl h59 trivial ?_⟩
    simp only [go_sem, q0, Nat.reduceAdd, Nat.reduceEqDiff, Nat.reduceBEq, Nat.reduceLeDiff, reduceCtorEq, ↓reduceIte]

/-- what an operation on two numbers gives -/
def opN (op sc : Int) (a b : Int × Int) : (Int × Int) × Int := if op == 12 then addN a b else if op == 13 then subN a b else if op == 14 then mulN a b else divN a b sc
def isQ (op : Int) : Bool := !((op == 12) || (op == 13) || (op == 14))
def ariV (op sc : Int) (a b : Val) (x : Int) : Val × Int :=
  if x != 0 then (zeroV, x) else if !isN a || !isN b then (zeroV, failE x 18) else
    (numV (!isQ op && ((a.kind == 2) && (b.kind == 2))) (opN op sc (ofN a) (ofN b)).1 (opN op sc (ofN a) (ofN b)).2, numE (opN op sc (ofN a) (ofN b)).2 x)
theorem walk130 (e : Exp) (a b env : Val) (x : Int) : MCon 130 [encE e, encV a, encV b] env x (.d (encV (ariV e.op e.int a b x).1)) (ariV e.op e.int a b x).2 := by
  refine ok130.con (k := false) (Nat.le_of_ble_eq_true rfl) (mO_closed _ _ _) trivial ?_
  have c18 := (walk126 env x 18).to trivial
  have ca := (walk176 a).call trivial
  have cb := (walk176 b).call trivial
  have oa := (walk177 a).call trivial
  have ob := (walk177 b).call trivial
  have cN := fun (wh : Bool) (n : Int × Int) (er : Int) => (walk181 wh n er env x).to trivial
  generalize hT : ariV e.op e.int a b x = T
  unfold ariV at hT
  rw [encV_eq] at ca cb oa ob
  rw [encE_eq, encV_eq a, encV_eq b]
  simp only [encN] at oa ob cN
  simp only [go_sem, ir130, mC, List.map_cons, List.map_nil, Nat.reduceAdd, Nat.reduceEqDiff, Nat.reduceBEq, Nat.reduceLeDiff, reduceCtorEq, ↓reduceIte]
  refine ⟨fun h0 => ?_, fun h0 => ?_⟩
  · rw [if_pos h0] at hT
    rw [← hT]
    try exact ⟨rfl, rfl⟩
  rw [if_neg (by rw [h0]; exact Bool.false_ne_true)] at hT
  refine wps_call rfl ca trivial ?_
  simp only [go_sem, mC, List.map_cons, List.map_nil, Nat.reduceAdd, Nat.reduceEqDiff, Nat.reduceBEq, Nat.reduceLeDiff, reduceCtorEq, ↓reduceIte]
  refine scQ_pure (!isN b) (fun _ => ?_) ?_
  · simp only [go_sem, Nat.reduceAdd, Nat.reduceEqDiff, Nat.reduceBEq, Nat.reduceLeDiff, reduceCtorEq, ↓reduceIte]
    refine wps_call rfl cb trivial ?_
    simp only [go_sem, Nat.reduceAdd, Nat.reduceEqDiff, Nat.reduceBEq, Nat.reduceLeDiff, reduceCtorEq, ↓reduceIte]
  simp only [go_sem, Nat.reduceAdd, Nat.reduceEqDiff, Nat.reduceBEq, Nat.reduceLeDiff, reduceCtorEq, ↓reduceIte]
  refine ⟨fun h1 => ?_, fun h1 => ?_⟩
  · rw [if_pos h1] at hT
    rw [← hT]
    refine wps_call rfl c18 ⟨rfl, trivial⟩ ?_
    generalize zeroV = z at *
    rw [encV_eq]
    simp only [go_sem, mC, List.map_cons, List.map_nil, Nat.reduceAdd, Nat.reduceEqDiff, Nat.reduceBEq, Nat.reduceLeDiff, reduceCtorEq, ↓reduceIte]
    try exact ⟨rfl, rfl⟩
  rw [if_neg (by rw [h1]; exact Bool.false_ne_true)] at hT
  refine scQ_pure (b.kind == 2) (fun _ => ?_) ?_
  · simp only [go_sem, Nat.reduceAdd, Nat.reduceEqDiff, Nat.reduceBEq, Nat.reduceLeDiff, reduceCtorEq, ↓reduceIte]
  simp only [go_sem, Nat.reduceAdd, Nat.reduceEqDiff, Nat.reduceBEq, Nat.reduceLeDiff, reduceCtorEq, ↓reduceIte]
  generalize (a.kind == 2 && b.kind == 2) = wh at *
  have hqs : isQ e.op = !((e.op == 12) || (e.op == 13) || (e.op == 14)) := rfl
  refine ⟨fun h2 => ?_, fun h2 => ?_⟩
  · rw [hqs, opN, if_pos h2, h2, Bool.true_or, Bool.true_or, Bool.not_true, Bool.not_false, Bool.true_and] at hT
    have h22 := (walk22 (ofN a) (ofN b)).call (by simp [pureR])
    simp only [encN] at h22
    rw [← hT]
    have cM := cN wh (addN (ofN a) (ofN b)).1 (addN (ofN a) (ofN b)).2
    clear hT
    generalize numV _ _ _ = z at *
    generalize numE _ _ = y at *
    refine wpsL_call rfl oa trivial ?_
    simp only [go_sem, Nat.reduceAdd, Nat.reduceEqDiff, Nat.reduceBEq, Nat.reduceLeDiff, reduceCtorEq, ↓reduceIte]
    refine wpsL_call rfl ob trivial ?_
    simp only [go_sem, Nat.reduceAdd, Nat.reduceEqDiff, Nat.reduceBEq, Nat.reduceLeDiff, reduceCtorEq, ↓reduceIte]
    refine wpsL_call rfl h22 trivial ?_
    simp only [go_sem, Nat.reduceAdd, Nat.reduceEqDiff, Nat.reduceBEq, Nat.reduceLeDiff, reduceCtorEq, ↓reduceIte]
    refine ⟨rfl, wps_call rfl cM ⟨rfl, trivial⟩ ?_⟩
    rw [encV_eq]
    simp only [go_sem, mC, List.map_cons, List.map_nil, Nat.reduceAdd, Nat.reduceEqDiff, Nat.reduceBEq, Nat.reduceLeDiff, reduceCtorEq, ↓reduceIte]
    try exact ⟨rfl, rfl⟩
  refine ⟨fun h3 => ?_, fun h3 => ?_⟩
  · rw [hqs, opN, if_neg (by rw [h2]; exact Bool.false_ne_true), if_pos h3, h3, Bool.or_true, Bool.true_or, Bool.not_true, Bool.not_false, Bool.true_and] at hT
    have h22 := (walk182 (ofN a) (ofN b)).call (by simp [pureR])
    simp only [encN] at h22
    rw [← hT]
    have cM := cN wh (subN (ofN a) (ofN b)).1 (subN (ofN a) (ofN b)).2
    clear hT
    generalize numV _ _ _ = z at *
    generalize numE _ _ = y at *
    refine wpsL_call rfl oa trivial ?_
    simp only [go_sem, Nat.reduceAdd, Nat.reduceEqDiff, Nat.reduceBEq, Nat.reduceLeDiff, reduceCtorEq, ↓reduceIte]
    refine wpsL_call rfl ob trivial ?_
    simp only [go_sem, Nat.reduceAdd, Nat.reduceEqDiff, Nat.reduceBEq, Nat.reduceLeDiff, reduceCtorEq, ↓reduceIte]
    refine wpsL_call rfl h22 trivial ?_
    simp only [go_sem, Nat.reduceAdd, Nat.reduceEqDiff, Nat.reduceBEq, Nat.reduceLeDiff, reduceCtorEq, ↓reduceIte]
    refine ⟨rfl, wps_call rfl cM ⟨rfl, trivial⟩ ?_⟩
    rw [encV_eq]
    simp only [go_sem, mC, List.map_cons, List.map_nil, Nat.reduceAdd, Nat.reduceEqDiff, Nat.reduceBEq, Nat.reduceLeDiff, reduceCtorEq, ↓reduceIte]
    try exact ⟨rfl, rfl⟩
  refine ⟨fun h4 => ?_, fun h4 => ?_⟩
  · rw [hqs, opN, if_neg (by rw [h2]; exact Bool.false_ne_true), if_neg (by rw [h3]; exact Bool.false_ne_true), if_pos h4, h4, Bool.or_true, Bool.not_true, Bool.not_false, Bool.true_and] at hT
    have h22 := (walk183 (ofN a) (ofN b)).call (by simp [pureR])
    simp only [encN] at h22
    rw [← hT]
    have cM := cN wh (mulN (ofN a) (ofN b)).1 (mulN (ofN a) (ofN b)).2
    clear hT
    generalize numV _ _ _ = z at *
    generalize numE _ _ = y at *
    refine wpsL_call rfl oa trivial ?_
    simp only [go_sem, Nat.reduceAdd, Nat.reduceEqDiff, Nat.reduceBEq, Nat.reduceLeDiff, reduceCtorEq, ↓reduceIte]
    refine wpsL_call rfl ob trivial ?_
    simp only [go_sem, Nat.reduceAdd, Nat.reduceEqDiff, Nat.reduceBEq, Nat.reduceLeDiff, reduceCtorEq, ↓reduceIte]
    refine wpsL_call rfl h22 trivial ?_
    simp only [go_sem, Nat.reduceAdd, Nat.reduceEqDiff, Nat.reduceBEq, Nat.reduceLeDiff, reduceCtorEq, ↓reduceIte]
    refine ⟨rfl, wps_call rfl cM ⟨rfl, trivial⟩ ?_⟩
    rw [encV_eq]
    simp only [go_sem, mC, List.map_cons, List.map_nil, Nat.reduceAdd, Nat.reduceEqDiff, Nat.reduceBEq, Nat.reduceLeDiff, reduceCtorEq, ↓reduceIte]
    try exact ⟨rfl, rfl⟩
  · rw [hqs, opN, if_neg (by rw [h2]; exact Bool.false_ne_true), if_neg (by rw [h3]; exact Bool.false_ne_true), if_neg (by rw [h4]; exact Bool.false_ne_true), h2, h3, h4, Bool.false_or, Bool.false_or, Bool.not_false, Bool.not_true, Bool.false_and] at hT
    have h22 := (walk24 (ofN a) (ofN b) e.int).call (by simp [pureR])
    simp only [encN] at h22
    rw [← hT]
    have cM := cN false (divN (ofN a) (ofN b) e.int).1 (divN (ofN a) (ofN b) e.int).2
    clear hT
    generalize numV _ _ _ = z at *
    generalize numE _ _ = y at *
    refine wpsL_call rfl oa trivial ?_
    simp only [go_sem, Nat.reduceAdd, Nat.reduceEqDiff, Nat.reduceBEq, Nat.reduceLeDiff, reduceCtorEq, ↓reduceIte]
    refine wpsL_call rfl ob trivial ?_
    simp only [go_sem, Nat.reduceAdd, Nat.reduceEqDiff, Nat.reduceBEq, Nat.reduceLeDiff, reduceCtorEq, ↓reduceIte]
    refine wpsL_call rfl h22 trivial ?_
    simp only [go_sem, Nat.reduceAdd, Nat.reduceEqDiff, Nat.reduceBEq, Nat.reduceLeDiff, reduceCtorEq, ↓reduceIte]
    refine ⟨rfl, wps_call rfl cM ⟨rfl, trivial⟩ ?_⟩
    rw [encV_eq]
    simp only [go_sem, mC, List.map_cons, List.map_nil, Nat.reduceAdd, Nat.reduceEqDiff, Nat.reduceBEq, Nat.reduceLeDiff, reduceCtorEq, ↓reduceIte]
    try exact ⟨rfl, rfl⟩
end Go.Proofs
