/- The machine: compare, need, relations. -/
import Derived.Test.YtholoaojlcnacaaGreatDoorCaB
import Derived.Test.YtholoaojlcnacaaGreatDoorWalkB
import Derived.Test.YtholoaojlcnacaaGreatDoorFormsC
import Derived.Test.YtholoaojlcnacaaGreatDoorPathE
set_option linter.unusedVariables false
set_option linter.unusedSimpArgs false
set_option linter.unusedSectionVars false
set_option linter.unusedSimpArgs false
set_option linter.unusedVariables false
set_option maxRecDepth 10000
namespace Go.Proofs
open Go Av

def relM : Dat := .map [(.int .i64 8, .fn (.func 172) [] []), (.int .i64 9, .fn (.func 173) [] []), (.int .i64 10, .fn (.func 174) [] []), (.int .i64 11, .fn (.func 175) [] [])]
theorem walk121 : PCon Tryz.prog 121 [] (.d relM) := by
  refine ok121.pcon (Nat.le_of_ble_eq_true rfl) trivial ?_
  simp only [go_sem, ir121, relM, Nat.reduceAdd, Nat.reduceEqDiff, Nat.reduceBEq, Nat.reduceLeDiff, reduceCtorEq, ↓reduceIte]
  refine ⟨trivial, trivial, trivial, trivial, trivial, rfl⟩
theorem walk172 (n : Int) : PCon Tryz.prog 172 [.int .i64 n] (.d (.bool (decide (n < 0)))) := by
  refine ok172.pcon (Nat.le_of_ble_eq_true rfl) trivial ?_
  simp only [go_sem, ir172, Nat.reduceAdd, Nat.reduceEqDiff, Nat.reduceBEq, Nat.reduceLeDiff, reduceCtorEq, ↓reduceIte]
theorem walk173 (n : Int) : PCon Tryz.prog 173 [.int .i64 n] (.d (.bool (decide (n ≤ 0)))) := by
  refine ok173.pcon (Nat.le_of_ble_eq_true rfl) trivial ?_
  simp only [go_sem, ir173, Nat.reduceAdd, Nat.reduceEqDiff, Nat.reduceBEq, Nat.reduceLeDiff, reduceCtorEq, ↓reduceIte]
theorem walk174 (n : Int) : PCon Tryz.prog 174 [.int .i64 n] (.d (.bool (decide (n > 0)))) := by
  refine ok174.pcon (Nat.le_of_ble_eq_true rfl) trivial ?_
  simp only [go_sem, ir174, Nat.reduceAdd, Nat.reduceEqDiff, Nat.reduceBEq, Nat.reduceLeDiff, reduceCtorEq, ↓reduceIte]
theorem walk175 (n : Int) : PCon Tryz.prog 175 [.int .i64 n] (.d (.bool (decide (n ≥ 0)))) := by
  refine ok175.pcon (Nat.le_of_ble_eq_true rfl) trivial ?_
  simp only [go_sem, ir175, Nat.reduceAdd, Nat.reduceEqDiff, Nat.reduceBEq, Nat.reduceLeDiff, reduceCtorEq, ↓reduceIte]

def needE (v : Val) (y : Int) : Int := if (y == 0) && nullV v then failE y 19 else y
def needV (v : Val) (y : Int) : Val := if (y == 0) && nullV v then zeroV else v
theorem walk122 (e : Exp) (env v : Val) (x y : Int) (h : MCon 54 [encE e] env x (.d (encV v)) y) : MCon 122 [encE e] env x (.d (encV (needV v y))) (needE v y) := by
  refine ok122.con (k := false) (Nat.le_of_ble_eq_true rfl) (mO_closed _ _ _) trivial ?_
  have c54 := h.to trivial
  have c13 := (walk13 v).call trivial
  have c126 := (walk126 env y 19).to trivial
  unfold needV needE
  rw [encE_eq] at c54 ⊢
  rw [encV_eq v] at c54 c13
  simp only [go_sem, ir122, mC, List.map_cons, List.map_nil, Nat.reduceAdd, Nat.reduceEqDiff, Nat.reduceBEq, Nat.reduceLeDiff, reduceCtorEq, ↓reduceIte]
  refine wps_call rfl c54 ⟨rfl, trivial⟩ ?_
  simp only [go_sem, mC, List.map_cons, List.map_nil, Nat.reduceAdd, Nat.reduceEqDiff, Nat.reduceBEq, Nat.reduceLeDiff, reduceCtorEq, ↓reduceIte]
  refine scQ_pure (nullV v) (fun _ => ?_) ?_
  · simp only [go_sem, Nat.reduceAdd, Nat.reduceEqDiff, Nat.reduceBEq, Nat.reduceLeDiff, reduceCtorEq, ↓reduceIte]
    refine wps_call rfl c13 trivial ?_
    simp only [go_sem, Nat.reduceAdd, Nat.reduceEqDiff, Nat.reduceBEq, Nat.reduceLeDiff, reduceCtorEq, ↓reduceIte]
  simp only [go_sem, Nat.reduceAdd, Nat.reduceEqDiff, Nat.reduceBEq, Nat.reduceLeDiff, reduceCtorEq, ↓reduceIte]
  refine ⟨fun h1 => ?_, fun h1 => ?_⟩
  · rw [if_pos h1, if_pos h1]
    generalize zeroV = z at *
    refine wps_call rfl c126 ⟨rfl, trivial⟩ ?_
    rw [encV_eq]
    simp only [go_sem, mC, List.map_cons, List.map_nil, Nat.reduceAdd, Nat.reduceEqDiff, Nat.reduceBEq, Nat.reduceLeDiff, reduceCtorEq, ↓reduceIte]
    try exact ⟨rfl, rfl⟩
  · rw [if_neg (by rw [h1]; exact Bool.false_ne_true), if_neg (by rw [h1]; exact Bool.false_ne_true)]
    rw [encV_eq]
    simp only [go_sem, mC, List.map_cons, List.map_nil, Nat.reduceAdd, Nat.reduceEqDiff, Nat.reduceBEq, Nat.reduceLeDiff, reduceCtorEq, ↓reduceIte]
    try exact ⟨rfl, rfl⟩

def cprM (a b : Val) (x : Int) : Int × Int :=
  if x != 0 then (0, x) else if isN a && isN b then ((cprN (ofN a) (ofN b)).1, if (cprN (ofN a) (ofN b)).2 != 0 then failE x (cprN (ofN a) (ofN b)).2 else x)
  else if (a.kind == 4) && (b.kind == 4) then (cmpS a.text b.text, x)
  else if (a.kind == b.kind) && (((a.kind == 6) || (a.kind == 7)) || (a.kind == 1)) then (cmpI a.int b.int, x) else (0, failE x 18)
theorem walk124 (a b env : Val) (x : Int) : MCon 124 [encV a, encV b] env x (.d (.int .i64 (cprM a b x).1)) (cprM a b x).2 := by
  refine ok124.con (k := false) (Nat.le_of_ble_eq_true rfl) (mO_closed _ _ _) trivial ?_
  have c18 := (walk126 env x 18).to trivial
  have ca := (walk176 a).call trivial
  have cb := (walk176 b).call trivial
  have oa := (walk177 a).call trivial
  have ob := (walk177 b).call trivial
  have cf := fun y => (walk126 env x y).to trivial
  have h23 := (walk23 (ofN a) (ofN b)).call (by simp [pureR])
  have c78 := (walk78 a.text b.text).call trivial
  have c63 := (walk63 a.int b.int).call trivial
  generalize hT : cprM a b x = T
  unfold cprM at hT
  rw [encV_eq] at ca cb oa ob
  rw [encV_eq a, encV_eq b]
  simp only [encN] at oa ob h23
  simp only [go_sem, ir124, mC, List.map_cons, List.map_nil, Nat.reduceAdd, Nat.reduceEqDiff, Nat.reduceBEq, Nat.reduceLeDiff, reduceCtorEq, ↓reduceIte]
  refine ⟨fun h0 => ?_, fun h0 => ?_⟩
  · rw [if_pos h0] at hT
    rw [← hT]
    try exact ⟨rfl, rfl⟩
  rw [if_neg (by rw [h0]; exact Bool.false_ne_true)] at hT
  refine wps_call rfl ca trivial ?_
  simp only [go_sem, mC, List.map_cons, List.map_nil, Nat.reduceAdd, Nat.reduceEqDiff, Nat.reduceBEq, Nat.reduceLeDiff, reduceCtorEq, ↓reduceIte]
  refine scQ_pure (isN b) (fun _ => ?_) ?_
  · simp only [go_sem, Nat.reduceAdd, Nat.reduceEqDiff, Nat.reduceBEq, Nat.reduceLeDiff, reduceCtorEq, ↓reduceIte]
    refine wps_call rfl cb trivial ?_
    simp only [go_sem, Nat.reduceAdd, Nat.reduceEqDiff, Nat.reduceBEq, Nat.reduceLeDiff, reduceCtorEq, ↓reduceIte]
  simp only [go_sem, Nat.reduceAdd, Nat.reduceEqDiff, Nat.reduceBEq, Nat.reduceLeDiff, reduceCtorEq, ↓reduceIte]
  refine ⟨fun h1 => ?_, fun h1 => ?_⟩
  · rw [if_pos h1] at hT
    generalize cprN (ofN a) (ofN b) = R at *
    rw [← hT]
    refine wpsL_call rfl oa trivial ?_
    simp only [go_sem, Nat.reduceAdd, Nat.reduceEqDiff, Nat.reduceBEq, Nat.reduceLeDiff, reduceCtorEq, ↓reduceIte]
    refine wpsL_call rfl ob trivial ?_
    simp only [go_sem, Nat.reduceAdd, Nat.reduceEqDiff, Nat.reduceBEq, Nat.reduceLeDiff, reduceCtorEq, ↓reduceIte]
    refine wpsL_call rfl h23 trivial ?_
    simp only [go_sem, Nat.reduceAdd, Nat.reduceEqDiff, Nat.reduceBEq, Nat.reduceLeDiff, reduceCtorEq, ↓reduceIte]
    refine ⟨rfl, fun h2 => ?_, fun h2 => ?_⟩
    · rw [if_pos h2]
      refine wps_call rfl (cf R.2) ⟨rfl, trivial⟩ ?_
      simp only [go_sem, mC, List.map_cons, List.map_nil, Nat.reduceAdd, Nat.reduceEqDiff, Nat.reduceBEq, Nat.reduceLeDiff, reduceCtorEq, ↓reduceIte]
      try exact ⟨rfl, rfl⟩
    · rw [if_neg (by rw [h2]; exact Bool.false_ne_true)]
      try exact ⟨rfl, rfl⟩
  rw [if_neg (by rw [h1]; exact Bool.false_ne_true)] at hT
  try simp only [go_sem, Nat.reduceAdd, Nat.reduceEqDiff, Nat.reduceBEq, Nat.reduceLeDiff, reduceCtorEq, ↓reduceIte]
  refine scQ_pure (b.kind == 4) (fun _ => ?_) ?_
  · simp only [go_sem, Nat.reduceAdd, Nat.reduceEqDiff, Nat.reduceBEq, Nat.reduceLeDiff, reduceCtorEq, ↓reduceIte]
  simp only [go_sem, Nat.reduceAdd, Nat.reduceEqDiff, Nat.reduceBEq, Nat.reduceLeDiff, reduceCtorEq, ↓reduceIte]
  refine ⟨fun h2 => ?_, fun h2 => ?_⟩
  · rw [if_pos h2] at hT
    rw [← hT]
    refine wps_call rfl c78 trivial ?_
    simp only [go_sem, mC, List.map_cons, List.map_nil, Nat.reduceAdd, Nat.reduceEqDiff, Nat.reduceBEq, Nat.reduceLeDiff, reduceCtorEq, ↓reduceIte]
    try exact ⟨rfl, rfl⟩
  rw [if_neg (by rw [h2]; exact Bool.false_ne_true)] at hT
  try simp only [go_sem, Nat.reduceAdd, Nat.reduceEqDiff, Nat.reduceBEq, Nat.reduceLeDiff, reduceCtorEq, ↓reduceIte]
  refine scQ_pure (((a.kind == 6) || (a.kind == 7)) || (a.kind == 1)) (fun _ => ?_) ?_
  · simp only [go_sem, Nat.reduceAdd, Nat.reduceEqDiff, Nat.reduceBEq, Nat.reduceLeDiff, reduceCtorEq, ↓reduceIte]
    refine scQ_pure (a.kind == 7) (fun _ => ?_) ?_
    · simp only [go_sem, Nat.reduceAdd, Nat.reduceEqDiff, Nat.reduceBEq, Nat.reduceLeDiff, reduceCtorEq, ↓reduceIte]
    simp only [go_sem, Nat.reduceAdd, Nat.reduceEqDiff, Nat.reduceBEq, Nat.reduceLeDiff, reduceCtorEq, ↓reduceIte]
    refine scQ_pure (a.kind == 1) (fun _ => ?_) ?_
    · simp only [go_sem, Nat.reduceAdd, Nat.reduceEqDiff, Nat.reduceBEq, Nat.reduceLeDiff, reduceCtorEq, ↓reduceIte]
    simp only [go_sem, Nat.reduceAdd, Nat.reduceEqDiff, Nat.reduceBEq, Nat.reduceLeDiff, reduceCtorEq, ↓reduceIte]
  simp only [go_sem, Nat.reduceAdd, Nat.reduceEqDiff, Nat.reduceBEq, Nat.reduceLeDiff, reduceCtorEq, ↓reduceIte]
  refine ⟨fun h3 => ?_, fun h3 => ?_⟩
  · rw [if_pos h3] at hT
    rw [← hT]
    refine wps_call rfl c63 trivial ?_
    simp only [go_sem, mC, List.map_cons, List.map_nil, Nat.reduceAdd, Nat.reduceEqDiff, Nat.reduceBEq, Nat.reduceLeDiff, reduceCtorEq, ↓reduceIte]
    try exact ⟨rfl, rfl⟩
  rw [if_neg (by rw [h3]; exact Bool.false_ne_true)] at hT
  rw [← hT]
  refine wps_call rfl c18 ⟨rfl, trivial⟩ ?_
  simp only [go_sem, mC, List.map_cons, List.map_nil, Nat.reduceAdd, Nat.reduceEqDiff, Nat.reduceBEq, Nat.reduceLeDiff, reduceCtorEq, ↓reduceIte]
  try exact ⟨rfl, rfl⟩
end Go.Proofs
/- The machine: eval at some operations. -/
set_option linter.unusedSimpArgs false
set_option linter.unusedVariables false
set_option maxRecDepth 10000
namespace Go.Proofs
open Go Av

theorem nthA (a : Dat) (l : List Dat) : nth (a :: l) (Int.toNat 0) = a := rfl
theorem nthB (a b : Dat) (l : List Dat) : nth (a :: b :: l) (Int.toNat 1) = b := rfl
theorem ev_x (e : Exp) (env : Val) (x : Int) (hx : x ≠ 0) : MCon 54 [encE e] env x (.d (encV zeroV)) x := by
  refine ok54c.con (k := false) (Nat.le_of_ble_eq_true rfl) (mO_closed _ _ _) trivial ?_
  have hb : (x != 0) = true := by simp [hx]
  generalize hz : zeroV = z
  rw [encE_eq, encV_eq z]
  simp only [go_sem, ir54c, mC, hb, List.map_cons, List.map_nil, Nat.reduceAdd, Nat.reduceEqDiff, Nat.reduceBEq, Nat.reduceLeDiff, reduceCtorEq, ↓reduceIte]
  subst hz
  exact rfl
theorem ev_1 (n : Int) (t : Str) (v : Val) (vs : List Val) (es : List Exp) (hv : okV v) (env : Val) : MCon 54 [encE (.mk 1 n t (v :: vs) es)] env 0 (.d (encV v)) 0 := by
  refine ok54c.con (k := false) (Nat.le_of_ble_eq_true rfl) (mO_closed _ _ _) trivial ?_
  have hb : ((0 : Int) != 0) = false := rfl
  have b1 : ((1 : Int) == 1) = true := rfl
  have c55 := (walk55 v hv).call trivial
  have c121 := walk121.call trivial
  have hl : findM .i [(.int .i64 8, .fn (.func 172) [] []), (.int .i64 9, .fn (.func 173) [] []), (.int .i64 10, .fn (.func 174) [] []), (.int .i64 11, .fn (.func 175) [] [])] (.int .i64 1) = some none := rfl
  rw [relM] at c121
  rw [encE_eq]
  rw [encV_eq v] at c55 ⊢
  simp only [Exp.op, Exp.int, Exp.text, Exp.value, Exp.args, List.map_cons, List.map_nil]
  rw [encV_eq v]
  simp only [go_sem, ir54c, mC, hb, List.map_cons, List.map_nil, Nat.reduceAdd, Nat.reduceEqDiff, Nat.reduceBEq, Nat.reduceLeDiff, reduceCtorEq, ↓reduceIte]
  refine wpsL_call rfl c121 trivial ?_
  simp only [go_sem, hl, b1, b54_1, nthA, Nat.reduceAdd, Nat.reduceEqDiff, Nat.reduceBEq, Nat.reduceLeDiff, reduceCtorEq, ↓reduceIte]
  refine ⟨rfl, by simp, ?_⟩
  refine wps_call rfl c55 trivial ?_
  simp only [go_sem, mC, List.map_cons, List.map_nil, Nat.reduceAdd, Nat.reduceEqDiff, Nat.reduceBEq, Nat.reduceLeDiff, reduceCtorEq, ↓reduceIte]
  try exact ⟨rfl, rfl⟩

theorem ev_A12 (n : Int) (t : Str) (vs : List Val) (p q : Exp) (env va vb : Val) (y1 y2 : Int) (hp : MCon 54 [encE p] env 0 (.d (encV va)) y1) (hq : MCon 54 [encE q] env (needE va y1) (.d (encV vb)) y2) :
    MCon 54 [encE (.mk 12 n t vs [p, q])] env 0 (.d (encV (ariV 12 n (needV va y1) (needV vb y2) (needE vb y2)).1)) (ariV 12 n (needV va y1) (needV vb y2) (needE vb y2)).2 := by
  refine ok54c.con (k := false) (Nat.le_of_ble_eq_true rfl) (mO_closed _ _ _) trivial ?_
  have hb : ((0 : Int) != 0) = false := rfl
  have n1 := (walk122 p env va 0 y1 hp).to trivial
  have n2 := (walk122 q env vb (needE va y1) y2 hq).to trivial
  have c130 := (walk130 (.mk 12 n t vs [p, q]) (needV va y1) (needV vb y2) env (needE vb y2)).to trivial
  have c121 := walk121.call trivial
  have hl : findM .i [(.int .i64 8, .fn (.func 172) [] []), (.int .i64 9, .fn (.func 173) [] []), (.int .i64 10, .fn (.func 174) [] []), (.int .i64 11, .fn (.func 175) [] [])] (.int .i64 12) = some none := rfl
  rw [relM] at c121
  simp only [Exp.op, Exp.int] at c130
  generalize ariV 12 n (needV va y1) (needV vb y2) (needE vb y2) = R at *
  generalize needV va y1 = wa at *
  generalize needV vb y2 = wb at *
  generalize needE vb y2 = x2 at *
  generalize needE va y1 = x1 at *
  rw [encE_eq] at c130 ⊢
  simp only [Exp.op, Exp.int, Exp.text, Exp.value, Exp.args, List.map_cons, List.map_nil] at c130 ⊢
  rw [encE_eq p] at n1 c130 ⊢
  rw [encE_eq q] at n2 c130 ⊢
  rw [encV_eq] at n1 n2
  rw [encV_eq wa, encV_eq wb, encV_eq R.1] at c130
  rw [encV_eq R.1]
  simp only [go_sem, ir54c, mC, hb, List.map_cons, List.map_nil, Int.reduceBEq, Nat.reduceAdd, Nat.reduceEqDiff, Nat.reduceBEq, Nat.reduceLeDiff, reduceCtorEq, ↓reduceIte]
  refine wpsL_call rfl c121 trivial ?_
  simp only [go_sem, hl, Int.reduceBEq, Nat.reduceAdd, Nat.reduceEqDiff, Nat.reduceBEq, Nat.reduceLeDiff, reduceCtorEq, ↓reduceIte]
  refine ⟨rfl, ?_⟩
  simp only [go_sem, b54_27, Int.reduceBEq, Nat.reduceAdd, Nat.reduceEqDiff, Nat.reduceBEq, Nat.reduceLeDiff, reduceCtorEq, ↓reduceIte]
  simp only [go_sem, b54_26, Int.reduceBEq, Nat.reduceAdd, Nat.reduceEqDiff, Nat.reduceBEq, Nat.reduceLeDiff, reduceCtorEq, ↓reduceIte]
  simp only [go_sem, b54_25, Int.reduceBEq, Nat.reduceAdd, Nat.reduceEqDiff, Nat.reduceBEq, Nat.reduceLeDiff, reduceCtorEq, ↓reduceIte]
  simp only [go_sem, b54_24, Int.reduceBEq, Nat.reduceAdd, Nat.reduceEqDiff, Nat.reduceBEq, Nat.reduceLeDiff, reduceCtorEq, ↓reduceIte]
  simp only [go_sem, b54_23, Int.reduceBEq, Nat.reduceAdd, Nat.reduceEqDiff, Nat.reduceBEq, Nat.reduceLeDiff, reduceCtorEq, ↓reduceIte]
  simp only [go_sem, b54_12, nthA, nthB, Int.reduceBEq, Nat.reduceAdd, Nat.reduceEqDiff, Nat.reduceBEq, Nat.reduceLeDiff, reduceCtorEq, ↓reduceIte]
  refine ⟨by simp, wps_call rfl n1 ⟨rfl, trivial⟩ ?_⟩
  simp only [go_sem, mC, nthA, nthB, List.map_cons, List.map_nil, Int.reduceBEq, Nat.reduceAdd, Nat.reduceEqDiff, Nat.reduceBEq, Nat.reduceLeDiff, reduceCtorEq, ↓reduceIte]
  refine ⟨by simp, wps_call rfl n2 ⟨rfl, trivial⟩ ?_⟩
  simp only [go_sem, mC, nthA, nthB, List.map_cons, List.map_nil, Int.reduceBEq, Nat.reduceAdd, Nat.reduceEqDiff, Nat.reduceBEq, Nat.reduceLeDiff, reduceCtorEq, ↓reduceIte]
  refine wps_call rfl c130 ⟨rfl, trivial⟩ ?_
  simp only [go_sem, mC, List.map_cons, List.map_nil, Int.reduceBEq, Nat.reduceAdd, Nat.reduceEqDiff, Nat.reduceBEq, Nat.reduceLeDiff, reduceCtorEq, ↓reduceIte]
  try exact ⟨rfl, rfl⟩

theorem ev_A13 (n : Int) (t : Str) (vs : List Val) (p q : Exp) (env va vb : Val) (y1 y2 : Int) (hp : MCon 54 [encE p] env 0 (.d (encV va)) y1) (hq : MCon 54 [encE q] env (needE va y1) (.d (encV vb)) y2) :
    MCon 54 [encE (.mk 13 n t vs [p, q])] env 0 (.d (encV (ariV 13 n (needV va y1) (needV vb y2) (needE vb y2)).1)) (ariV 13 n (needV va y1) (needV vb y2) (needE vb y2)).2 := by
  refine ok54c.con (k := false) (Nat.le_of_ble_eq_true rfl) (mO_closed _ _ _) trivial ?_
  have hb : ((0 : Int) != 0) = false := rfl
  have n1 := (walk122 p env va 0 y1 hp).to trivial
  have n2 := (walk122 q env vb (needE va y1) y2 hq).to trivial
  have c130 := (walk130 (.mk 13 n t vs [p, q]) (needV va y1) (needV vb y2) env (needE vb y2)).to trivial
  have c121 := walk121.call trivial
  have hl : findM .i [(.int .i64 8, .fn (.func 172) [] []), (.int .i64 9, .fn (.func 173) [] []), (.int .i64 10, .fn (.func 174) [] []), (.int .i64 11, .fn (.func 175) [] [])] (.int .i64 13) = some none := rfl
  rw [relM] at c121
  simp only [Exp.op, Exp.int] at c130
  generalize ariV 13 n (needV va y1) (needV vb y2) (needE vb y2) = R at *
  generalize needV va y1 = wa at *
  generalize needV vb y2 = wb at *
  generalize needE vb y2 = x2 at *
  generalize needE va y1 = x1 at *
  rw [encE_eq] at c130 ⊢
  simp only [Exp.op, Exp.int, Exp.text, Exp.value, Exp.args, List.map_cons, List.map_nil] at c130 ⊢
  rw [encE_eq p] at n1 c130 ⊢
  rw [encE_eq q] at n2 c130 ⊢
  rw [encV_eq] at n1 n2
  rw [encV_eq wa, encV_eq wb, encV_eq R.1] at c130
  rw [encV_eq R.1]
  simp only [go_sem, ir54c, mC, hb, List.map_cons, List.map_nil, Int.reduceBEq, Nat.reduceAdd, Nat.reduceEqDiff, Nat.reduceBEq, Nat.reduceLeDiff, reduceCtorEq, ↓reduceIte]
  refine wpsL_call rfl c121 trivial ?_
  simp only [go_sem, hl, Int.reduceBEq, Nat.reduceAdd, Nat.reduceEqDiff, Nat.reduceBEq, Nat.reduceLeDiff, reduceCtorEq, ↓reduceIte]
  refine ⟨rfl, ?_⟩
  simp only [go_sem, b54_27, Int.reduceBEq, Nat.reduceAdd, Nat.reduceEqDiff, Nat.reduceBEq, Nat.reduceLeDiff, reduceCtorEq, ↓reduceIte]
  simp only [go_sem, b54_26, Int.reduceBEq, Nat.reduceAdd, Nat.reduceEqDiff, Nat.reduceBEq, Nat.reduceLeDiff, reduceCtorEq, ↓reduceIte]
  simp only [go_sem, b54_25, Int.reduceBEq, Nat.reduceAdd, Nat.reduceEqDiff, Nat.reduceBEq, Nat.reduceLeDiff, reduceCtorEq, ↓reduceIte]
  simp only [go_sem, b54_24, Int.reduceBEq, Nat.reduceAdd, Nat.reduceEqDiff, Nat.reduceBEq, Nat.reduceLeDiff, reduceCtorEq, ↓reduceIte]
  simp only [go_sem, b54_23, Int.reduceBEq, Nat.reduceAdd, Nat.reduceEqDiff, Nat.reduceBEq, Nat.reduceLeDiff, reduceCtorEq, ↓reduceIte]
  simp only [go_sem, b54_12, nthA, nthB, Int.reduceBEq, Nat.reduceAdd, Nat.reduceEqDiff, Nat.reduceBEq, Nat.reduceLeDiff, reduceCtorEq, ↓reduceIte]
  refine ⟨by simp, wps_call rfl n1 ⟨rfl, trivial⟩ ?_⟩
  simp only [go_sem, mC, nthA, nthB, List.map_cons, List.map_nil, Int.reduceBEq, Nat.reduceAdd, Nat.reduceEqDiff, Nat.reduceBEq, Nat.reduceLeDiff, reduceCtorEq, ↓reduceIte]
  refine ⟨by simp, wps_call rfl n2 ⟨rfl, trivial⟩ ?_⟩
  simp only [go_sem, mC, nthA, nthB, List.map_cons, List.map_nil, Int.reduceBEq, Nat.reduceAdd, Nat.reduceEqDiff, Nat.reduceBEq, Nat.reduceLeDiff, reduceCtorEq, ↓reduceIte]
  refine wps_call rfl c130 ⟨rfl, trivial⟩ ?_
  simp only [go_sem, mC, List.map_cons, List.map_nil, Int.reduceBEq, Nat.reduceAdd, Nat.reduceEqDiff, Nat.reduceBEq, Nat.reduceLeDiff, reduceCtorEq, ↓reduceIte]
  try exact ⟨rfl, rfl⟩

theorem ev_A14 (n : Int) (t : Str) (vs : List Val) (p q : Exp) (env va vb : Val) (y1 y2 : Int) (hp : MCon 54 [encE p] env 0 (.d (encV va)) y1) (hq : MCon 54 [encE q] env (needE va y1) (.d (encV vb)) y2) :
    MCon 54 [encE (.mk 14 n t vs [p, q])] env 0 (.d (encV (ariV 14 n (needV va y1) (needV vb y2) (needE vb y2)).1)) (ariV 14 n (needV va y1) (needV vb y2) (needE vb y2)).2 := by
  refine ok54c.con (k := false) (Nat.le_of_ble_eq_true rfl) (mO_closed _ _ _) trivial ?_
  have hb : ((0 : Int) != 0) = false := rfl
  have n1 := (walk122 p env va 0 y1 hp).to trivial
  have n2 := (walk122 q env vb (needE va y1) y2 hq).to trivial
  have c130 := (walk130 (.mk 14 n t vs [p, q]) (needV va y1) (needV vb y2) env (needE vb y2)).to trivial
  have c121 := walk121.call trivial
  have hl : findM .i [(.int .i64 8, .fn (.func 172) [] []), (.int .i64 9, .fn (.func 173) [] []), (.int .i64 10, .fn (.func 174) [] []), (.int .i64 11, .fn (.func 175) [] [])] (.int .i64 14) = some none := rfl
  rw [relM] at c121
  simp only [Exp.op, Exp.int] at c130
  generalize ariV 14 n (needV va y1) (needV vb y2) (needE vb y2) = R at *
  generalize needV va y1 = wa at *
  generalize needV vb y2 = wb at *
  generalize needE vb y2 = x2 at *
  generalize needE va y1 = x1 at *
  rw [encE_eq] at c130 ⊢
  simp only [Exp.op, Exp.int, Exp.text, Exp.value, Exp.args, List.map_cons, List.map_nil] at c130 ⊢
  rw [encE_eq p] at n1 c130 ⊢
  rw [encE_eq q] at n2 c130 ⊢
  rw [encV_eq] at n1 n2
  rw [encV_eq wa, encV_eq wb, encV_eq R.1] at c130
  rw [encV_eq R.1]
  simp only [go_sem, ir54c, mC, hb, List.map_cons, List.map_nil, Int.reduceBEq, Nat.reduceAdd, Nat.reduceEqDiff, Nat.reduceBEq, Nat.reduceLeDiff, reduceCtorEq, ↓reduceIte]
  refine wpsL_call rfl c121 trivial ?_
  simp only [go_sem, hl, Int.reduceBEq, Nat.reduceAdd, Nat.reduceEqDiff, Nat.reduceBEq, Nat.reduceLeDiff, reduceCtorEq, ↓reduceIte]
  refine ⟨rfl, ?_⟩
  simp only [go_sem, b54_27, Int.reduceBEq, Nat.reduceAdd, Nat.reduceEqDiff, Nat.reduceBEq, Nat.reduceLeDiff, reduceCtorEq, ↓reduceIte]
  simp only [go_sem, b54_26, Int.reduceBEq, Nat.reduceAdd, Nat.reduceEqDiff, Nat.reduceBEq, Nat.reduceLeDiff, reduceCtorEq, ↓reduceIte]
  simp only [go_sem, b54_25, Int.reduceBEq, Nat.reduceAdd, Nat.reduceEqDiff, Nat.reduceBEq, Nat.reduceLeDiff, reduceCtorEq, ↓reduceIte]
  simp only [go_sem, b54_24, Int.reduceBEq, Nat.reduceAdd, Nat.reduceEqDiff, Nat.reduceBEq, Nat.reduceLeDiff, reduceCtorEq, ↓reduceIte]
  simp only [go_sem, b54_23, Int.reduceBEq, Nat.reduceAdd, Nat.reduceEqDiff, Nat.reduceBEq, Nat.reduceLeDiff, reduceCtorEq, ↓reduceIte]
  simp only [go_sem, b54_11, Int.reduceBEq, Nat.reduceAdd, Nat.reduceEqDiff, Nat.reduceBEq, Nat.reduceLeDiff, reduceCtorEq, ↓reduceIte]
  simp only [go_sem, b54_12, nthA, nthB, Int.reduceBEq, Nat.reduceAdd, Nat.reduceEqDiff, Nat.reduceBEq, Nat.reduceLeDiff, reduceCtorEq, ↓reduceIte]
  refine ⟨by simp, wps_call rfl n1 ⟨rfl, trivial⟩ ?_⟩
  simp only [go_sem, mC, nthA, nthB, List.map_cons, List.map_nil, Int.reduceBEq, Nat.reduceAdd, Nat.reduceEqDiff, Nat.reduceBEq, Nat.reduceLeDiff, reduceCtorEq, ↓reduceIte]
  refine ⟨by simp, wps_call rfl n2 ⟨rfl, trivial⟩ ?_⟩
  simp only [go_sem, mC, nthA, nthB, List.map_cons, List.map_nil, Int.reduceBEq, Nat.reduceAdd, Nat.reduceEqDiff, Nat.reduceBEq, Nat.reduceLeDiff, reduceCtorEq, ↓reduceIte]
  refine wps_call rfl c130 ⟨rfl, trivial⟩ ?_
  simp only [go_sem, mC, List.map_cons, List.map_nil, Int.reduceBEq, Nat.reduceAdd, Nat.reduceEqDiff, Nat.reduceBEq, Nat.reduceLeDiff, reduceCtorEq, ↓reduceIte]
  try exact ⟨rfl, rfl⟩

theorem ev_A15 (n : Int) (t : Str) (vs : List Val) (p q : Exp) (env va vb : Val) (y1 y2 : Int) (hp : MCon 54 [encE p] env 0 (.d (encV va)) y1) (hq : MCon 54 [encE q] env (needE va y1) (.d (encV vb)) y2) :
    MCon 54 [encE (.mk 15 n t vs [p, q])] env 0 (.d (encV (ariV 15 n (needV va y1) (needV vb y2) (needE vb y2)).1)) (ariV 15 n (needV va y1) (needV vb y2) (needE vb y2)).2 := by
  refine ok54c.con (k := false) (Nat.le_of_ble_eq_true rfl) (mO_closed _ _ _) trivial ?_
  have hb : ((0 : Int) != 0) = false := rfl
  have n1 := (walk122 p env va 0 y1 hp).to trivial
  have n2 := (walk122 q env vb (needE va y1) y2 hq).to trivial
  have c130 := (walk130 (.mk 15 n t vs [p, q]) (needV va y1) (needV vb y2) env (needE vb y2)).to trivial
  have c121 := walk121.call trivial
  have hl : findM .i [(.int .i64 8, .fn (.func 172) [] []), (.int .i64 9, .fn (.func 173) [] []), (.int .i64 10, .fn (.func 174) [] []), (.int .i64 11, .fn (.func 175) [] [])] (.int .i64 15) = some none := rfl
  rw [relM] at c121
  simp only [Exp.op, Exp.int] at c130
  generalize ariV 15 n (needV va y1) (needV vb y2) (needE vb y2) = R at *
  generalize needV va y1 = wa at *
  generalize needV vb y2 = wb at *
  generalize needE vb y2 = x2 at *
  generalize needE va y1 = x1 at *
  rw [encE_eq] at c130 ⊢
  simp only [Exp.op, Exp.int, Exp.text, Exp.value, Exp.args, List.map_cons, List.map_nil] at c130 ⊢
  rw [encE_eq p] at n1 c130 ⊢
  rw [encE_eq q] at n2 c130 ⊢
  rw [encV_eq] at n1 n2
  rw [encV_eq wa, encV_eq wb, encV_eq R.1] at c130
  rw [encV_eq R.1]
  simp only [go_sem, ir54c, mC, hb, List.map_cons, List.map_nil, Int.reduceBEq, Nat.reduceAdd, Nat.reduceEqDiff, Nat.reduceBEq, Nat.reduceLeDiff, reduceCtorEq, ↓reduceIte]
  refine wpsL_call rfl c121 trivial ?_
  simp only [go_sem, hl, Int.reduceBEq, Nat.reduceAdd, Nat.reduceEqDiff, Nat.reduceBEq, Nat.reduceLeDiff, reduceCtorEq, ↓reduceIte]
  refine ⟨rfl, ?_⟩
  simp only [go_sem, b54_27, Int.reduceBEq, Nat.reduceAdd, Nat.reduceEqDiff, Nat.reduceBEq, Nat.reduceLeDiff, reduceCtorEq, ↓reduceIte]
  simp only [go_sem, b54_26, Int.reduceBEq, Nat.reduceAdd, Nat.reduceEqDiff, Nat.reduceBEq, Nat.reduceLeDiff, reduceCtorEq, ↓reduceIte]
  simp only [go_sem, b54_25, Int.reduceBEq, Nat.reduceAdd, Nat.reduceEqDiff, Nat.reduceBEq, Nat.reduceLeDiff, reduceCtorEq, ↓reduceIte]
  simp only [go_sem, b54_24, Int.reduceBEq, Nat.reduceAdd, Nat.reduceEqDiff, Nat.reduceBEq, Nat.reduceLeDiff, reduceCtorEq, ↓reduceIte]
  simp only [go_sem, b54_23, Int.reduceBEq, Nat.reduceAdd, Nat.reduceEqDiff, Nat.reduceBEq, Nat.reduceLeDiff, reduceCtorEq, ↓reduceIte]
  simp only [go_sem, b54_11, Int.reduceBEq, Nat.reduceAdd, Nat.reduceEqDiff, Nat.reduceBEq, Nat.reduceLeDiff, reduceCtorEq, ↓reduceIte]
  simp only [go_sem, b54_12, nthA, nthB, Int.reduceBEq, Nat.reduceAdd, Nat.reduceEqDiff, Nat.reduceBEq, Nat.reduceLeDiff, reduceCtorEq, ↓reduceIte]
  refine ⟨by simp, wps_call rfl n1 ⟨rfl, trivial⟩ ?_⟩
  simp only [go_sem, mC, nthA, nthB, List.map_cons, List.map_nil, Int.reduceBEq, Nat.reduceAdd, Nat.reduceEqDiff, Nat.reduceBEq, Nat.reduceLeDiff, reduceCtorEq, ↓reduceIte]
  refine ⟨by simp, wps_call rfl n2 ⟨rfl, trivial⟩ ?_⟩
  simp only [go_sem, mC, nthA, nthB, List.map_cons, List.map_nil, Int.reduceBEq, Nat.reduceAdd, Nat.reduceEqDiff, Nat.reduceBEq, Nat.reduceLeDiff, reduceCtorEq, ↓reduceIte]
  refine wps_call rfl c130 ⟨rfl, trivial⟩ ?_
  simp only [go_sem, mC, List.map_cons, List.map_nil, Int.reduceBEq, Nat.reduceAdd, Nat.reduceEqDiff, Nat.reduceBEq, Nat.reduceLeDiff, reduceCtorEq, ↓reduceIte]
  try exact ⟨rfl, rfl⟩

/-- what a relation says of an order -/
def relB (op n : Int) : Bool := if op == 8 then decide (n < 0) else if op == 9 then decide (n ≤ 0) else if op == 10 then decide (n > 0) else decide (n ≥ 0)

theorem ev_R8 (n : Int) (t : Str) (vs : List Val) (p q : Exp) (env va vb : Val) (y1 y2 : Int) (hp : MCon 54 [encE p] env 0 (.d (encV va)) y1) (hq : MCon 54 [encE q] env (needE va y1) (.d (encV vb)) y2) :
    MCon 54 [encE (.mk 8 n t vs [p, q])] env 0 (.d (encV (boolV (relB 8 (cprM (needV va y1) (needV vb y2) (needE vb y2)).1)))) (cprM (needV va y1) (needV vb y2) (needE vb y2)).2 := by
  refine ok54c.con (k := false) (Nat.le_of_ble_eq_true rfl) (mO_closed _ _ _) trivial ?_
  have hb : ((0 : Int) != 0) = false := rfl
  have n1 := (walk122 p env va 0 y1 hp).to trivial
  have n2 := (walk122 q env vb (needE va y1) y2 hq).to trivial
  have c124 := (walk124 (needV va y1) (needV vb y2) env (needE vb y2)).to trivial
  have c121 := walk121.call trivial
  have hl : findM .i [(.int .i64 8, .fn (.func 172) [] []), (.int .i64 9, .fn (.func 173) [] []), (.int .i64 10, .fn (.func 174) [] []), (.int .i64 11, .fn (.func 175) [] [])] (.int .i64 8) = some (some (.fn (.func 172) [] [])) := rfl
  rw [relM] at c121
  generalize cprM (needV va y1) (needV vb y2) (needE vb y2) = R at *
  generalize needV va y1 = wa at *
  generalize needV vb y2 = wb at *
  generalize needE vb y2 = x2 at *
  generalize needE va y1 = x1 at *
  have cR := (walk172 R.1).call trivial
  have cB := (walk123 (relB 8 R.1)).call trivial
  have hr : relB 8 R.1 = decide (R.1 < 0) := rfl
  rw [← hr] at cR
  generalize relB 8 R.1 = B at *
  generalize boolV B = W at *
  rw [encE_eq]
  simp only [Exp.op, Exp.int, Exp.text, Exp.value, Exp.args, List.map_cons, List.map_nil]
  rw [encE_eq p] at n1 ⊢
  rw [encE_eq q] at n2 ⊢
  rw [encV_eq] at n1 n2 cB ⊢
  rw [encV_eq wa, encV_eq wb] at c124
  simp only [go_sem, ir54c, mC, hb, List.map_cons, List.map_nil, Int.reduceBEq, Nat.reduceAdd, Nat.reduceEqDiff, Nat.reduceBEq, Nat.reduceLeDiff, reduceCtorEq, ↓reduceIte]
  refine wpsL_call rfl c121 trivial ?_
  simp only [go_sem, hl, Option.getD_some, Option.isSome_some, Int.reduceBEq, Nat.reduceAdd, Nat.reduceEqDiff, Nat.reduceBEq, Nat.reduceLeDiff, reduceCtorEq, ↓reduceIte]
  refine ⟨rfl, ?_⟩
  simp only [go_sem, b54_0, nthA, nthB, Int.reduceBEq, Nat.reduceAdd, Nat.reduceEqDiff, Nat.reduceBEq, Nat.reduceLeDiff, reduceCtorEq, ↓reduceIte]
  refine ⟨by simp, wps_call rfl n1 ⟨rfl, trivial⟩ ?_⟩
  simp only [go_sem, mC, nthA, nthB, List.map_cons, List.map_nil, Int.reduceBEq, Nat.reduceAdd, Nat.reduceEqDiff, Nat.reduceBEq, Nat.reduceLeDiff, reduceCtorEq, ↓reduceIte]
  refine ⟨by simp, wps_call rfl n2 ⟨rfl, trivial⟩ ?_⟩
  simp only [go_sem, mC, nthA, nthB, List.map_cons, List.map_nil, Int.reduceBEq, Nat.reduceAdd, Nat.reduceEqDiff, Nat.reduceBEq, Nat.reduceLeDiff, reduceCtorEq, ↓reduceIte]
  refine wps_call rfl c124 ⟨rfl, trivial⟩ ?_
  simp only [go_sem, mC, List.map_cons, List.map_nil, Int.reduceBEq, Nat.reduceAdd, Nat.reduceEqDiff, Nat.reduceBEq, Nat.reduceLeDiff, reduceCtorEq, ↓reduceIte]
  refine wps_call rfl cR trivial ?_
  simp only [go_sem, mC, List.map_cons, List.map_nil, Int.reduceBEq, Nat.reduceAdd, Nat.reduceEqDiff, Nat.reduceBEq, Nat.reduceLeDiff, reduceCtorEq, ↓reduceIte]
  refine wps_call rfl cB trivial ?_
  simp only [go_sem, mC, List.map_cons, List.map_nil, Int.reduceBEq, Nat.reduceAdd, Nat.reduceEqDiff, Nat.reduceBEq, Nat.reduceLeDiff, reduceCtorEq, ↓reduceIte]
  try exact ⟨rfl, rfl⟩

theorem ev_R9 (n : Int) (t : Str) (vs : List Val) (p q : Exp) (env va vb : Val) (y1 y2 : Int) (hp : MCon 54 [encE p] env 0 (.d (encV va)) y1) (hq : MCon 54 [encE q] env (needE va y1) (.d (encV vb)) y2) :
    MCon 54 [encE (.mk 9 n t vs [p, q])] env 0 (.d (encV (boolV (relB 9 (cprM (needV va y1) (needV vb y2) (needE vb y2)).1)))) (cprM (needV va y1) (needV vb y2) (needE vb y2)).2 := by
  refine ok54c.con (k := false) (Nat.le_of_ble_eq_true rfl) (mO_closed _ _ _) trivial ?_
  have hb : ((0 : Int) != 0) = false := rfl
  have n1 := (walk122 p env va 0 y1 hp).to trivial
  have n2 := (walk122 q env vb (needE va y1) y2 hq).to trivial
  have c124 := (walk124 (needV va y1) (needV vb y2) env (needE vb y2)).to trivial
  have c121 := walk121.call trivial
  have hl : findM .i [(.int .i64 8, .fn (.func 172) [] []), (.int .i64 9, .fn (.func 173) [] []), (.int .i64 10, .fn (.func 174) [] []), (.int .i64 11, .fn (.func 175) [] [])] (.int .i64 9) = some (some (.fn (.func 173) [] [])) := rfl
  rw [relM] at c121
  generalize cprM (needV va y1) (needV vb y2) (needE vb y2) = R at *
  generalize needV va y1 = wa at *
  generalize needV vb y2 = wb at *
  generalize needE vb y2 = x2 at *
  generalize needE va y1 = x1 at *
  have cR := (walk173 R.1).call trivial
  have cB := (walk123 (relB 9 R.1)).call trivial
  have hr : relB 9 R.1 = decide (R.1 ≤ 0) := rfl
  rw [← hr] at cR
  generalize relB 9 R.1 = B at *
  generalize boolV B = W at *
  rw [encE_eq]
  simp only [Exp.op, Exp.int, Exp.text, Exp.value, Exp.args, List.map_cons, List.map_nil]
  rw [encE_eq p] at n1 ⊢
  rw [encE_eq q] at n2 ⊢
  rw [encV_eq] at n1 n2 cB ⊢
  rw [encV_eq wa, encV_eq wb] at c124
  simp only [go_sem, ir54c, mC, hb, List.map_cons, List.map_nil, Int.reduceBEq, Nat.reduceAdd, Nat.reduceEqDiff, Nat.reduceBEq, Nat.reduceLeDiff, reduceCtorEq, ↓reduceIte]
  refine wpsL_call rfl c121 trivial ?_
  simp only [go_sem, hl, Option.getD_some, Option.isSome_some, Int.reduceBEq, Nat.reduceAdd, Nat.reduceEqDiff, Nat.reduceBEq, Nat.reduceLeDiff, reduceCtorEq, ↓reduceIte]
  refine ⟨rfl, ?_⟩
  simp only [go_sem, b54_0, nthA, nthB, Int.reduceBEq, Nat.reduceAdd, Nat.reduceEqDiff, Nat.reduceBEq, Nat.reduceLeDiff, reduceCtorEq, ↓reduceIte]
  refine ⟨by simp, wps_call rfl n1 ⟨rfl, trivial⟩ ?_⟩
  simp only [go_sem, mC, nthA, nthB, List.map_cons, List.map_nil, Int.reduceBEq, Nat.reduceAdd, Nat.reduceEqDiff, Nat.reduceBEq, Nat.reduceLeDiff, reduceCtorEq, ↓reduceIte]
  refine ⟨by simp, wps_call rfl n2 ⟨rfl, trivial⟩ ?_⟩
  simp only [go_sem, mC, nthA, nthB, List.map_cons, List.map_nil, Int.reduceBEq, Nat.reduceAdd, Nat.reduceEqDiff, Nat.reduceBEq, Nat.reduceLeDiff, reduceCtorEq, ↓reduceIte]
  refine wps_call rfl c124 ⟨rfl, trivial⟩ ?_
  simp only [go_sem, mC, List.map_cons, List.map_nil, Int.reduceBEq, Nat.reduceAdd, Nat.reduceEqDiff, Nat.reduceBEq, Nat.reduceLeDiff, reduceCtorEq, ↓reduceIte]
  refine wps_call rfl cR trivial ?_
  simp only [go_sem, mC, List.map_cons, List.map_nil, Int.reduceBEq, Nat.reduceAdd, Nat.reduceEqDiff, Nat.reduceBEq, Nat.reduceLeDiff, reduceCtorEq, ↓reduceIte]
  refine wps_call rfl cB trivial ?_
  simp only [go_sem, mC, List.map_cons, List.map_nil, Int.reduceBEq, Nat.reduceAdd, Nat.reduceEqDiff, Nat.reduceBEq, Nat.reduceLeDiff, reduceCtorEq, ↓reduceIte]
  try exact ⟨rfl, rfl⟩

theorem ev_R10 (n : Int) (t : Str) (vs : List Val) (p q : Exp) (env va vb : Val) (y1 y2 : Int) (hp : MCon 54 [encE p] env 0 (.d (encV va)) y1) (hq : MCon 54 [encE q] env (needE va y1) (.d (encV vb)) y2) :
    MCon 54 [encE (.mk 10 n t vs [p, q])] env 0 (.d (encV (boolV (relB 10 (cprM (needV va y1) (needV vb y2) (needE vb y2)).1)))) (cprM (needV va y1) (needV vb y2) (needE vb y2)).2 := by
  refine ok54c.con (k := false) (Nat.le_of_ble_eq_true rfl) (mO_closed _ _ _) trivial ?_
  have hb : ((0 : Int) != 0) = false := rfl
  have n1 := (walk122 p env va 0 y1 hp).to trivial
  have n2 := (walk122 q env vb (needE va y1) y2 hq).to trivial
  have c124 := (walk124 (needV va y1) (needV vb y2) env (needE vb y2)).to trivial
  have c121 := walk121.call trivial
  have hl : findM .i [(.int .i64 8, .fn (.func 172) [] []), (.int .i64 9, .fn (.func 173) [] []), (.int .i64 10, .fn (.func 174) [] []), (.int .i64 11, .fn (.func 175) [] [])] (.int .i64 10) = some (some (.fn (.func 174) [] [])) := rfl
  rw [relM] at c121
  generalize cprM (needV va y1) (needV vb y2) (needE vb y2) = R at *
  generalize needV va y1 = wa at *
  generalize needV vb y2 = wb at *
  generalize needE vb y2 = x2 at *
  generalize needE va y1 = x1 at *
  have cR := (walk174 R.1).call trivial
  have cB := (walk123 (relB 10 R.1)).call trivial
  have hr : relB 10 R.1 = decide (R.1 > 0) := rfl
  rw [← hr] at cR
  generalize relB 10 R.1 = B at *
  generalize boolV B = W at *
  rw [encE_eq]
  simp only [Exp.op, Exp.int, Exp.text, Exp.value, Exp.args, List.map_cons, List.map_nil]
  rw [encE_eq p] at n1 ⊢
  rw [encE_eq q] at n2 ⊢
  rw [encV_eq] at n1 n2 cB ⊢
  rw [encV_eq wa, encV_eq wb] at c124
  simp only [go_sem, ir54c, mC, hb, List.map_cons, List.map_nil, Int.reduceBEq, Nat.reduceAdd, Nat.reduceEqDiff, Nat.reduceBEq, Nat.reduceLeDiff, reduceCtorEq, ↓reduceIte]
  refine wpsL_call rfl c121 trivial ?_
  simp only [go_sem, hl, Option.getD_some, Option.isSome_some, Int.reduceBEq, Nat.reduceAdd, Nat.reduceEqDiff, Nat.reduceBEq, Nat.reduceLeDiff, reduceCtorEq, ↓reduceIte]
  refine ⟨rfl, ?_⟩
  simp only [go_sem, b54_0, nthA, nthB, Int.reduceBEq, Nat.reduceAdd, Nat.reduceEqDiff, Nat.reduceBEq, Nat.reduceLeDiff, reduceCtorEq, ↓reduceIte]
  refine ⟨by simp, wps_call rfl n1 ⟨rfl, trivial⟩ ?_⟩
  simp only [go_sem, mC, nthA, nthB, List.map_cons, List.map_nil, Int.reduceBEq, Nat.reduceAdd, Nat.reduceEqDiff, Nat.reduceBEq, Nat.reduceLeDiff, reduceCtorEq, ↓reduceIte]
  refine ⟨by simp, wps_call rfl n2 ⟨rfl, trivial⟩ ?_⟩
  simp only [go_sem, mC, nthA, nthB, List.map_cons, List.map_nil, Int.reduceBEq, Nat.reduceAdd, Nat.reduceEqDiff, Nat.reduceBEq, Nat.reduceLeDiff, reduceCtorEq, ↓reduceIte]
  refine wps_call rfl c124 ⟨rfl, trivial⟩ ?_
  simp only [go_sem, mC, List.map_cons, List.map_nil, Int.reduceBEq, Nat.reduceAdd, Nat.reduceEqDiff, Nat.reduceBEq, Nat.reduceLeDiff, reduceCtorEq, ↓reduceIte]
  refine wps_call rfl cR trivial ?_
  simp only [go_sem, mC, List.map_cons, List.map_nil, Int.reduceBEq, Nat.reduceAdd, Nat.reduceEqDiff, Nat.reduceBEq, Nat.reduceLeDiff, reduceCtorEq, ↓reduceIte]
  refine wps_call rfl cB trivial ?_
  simp only [go_sem, mC, List.map_cons, List.map_nil, Int.reduceBEq, Nat.reduceAdd, Nat.reduceEqDiff, Nat.reduceBEq, Nat.reduceLeDiff, reduceCtorEq, ↓reduceIte]
  try exact ⟨rfl, rfl⟩

theorem ev_R11 (n : Int) (t : Str) (vs : List Val) (p q : Exp) (env va vb : Val) (y1 y2 : Int) (hp : MCon 54 [encE p] env 0 (.d (encV va)) y1) (hq : MCon 54 [encE q] env (needE va y1) (.d (encV vb)) y2) :
    MCon 54 [encE (.mk 11 n t vs [p, q])] env 0 (.d (encV (boolV (relB 11 (cprM (needV va y1) (needV vb y2) (needE vb y2)).1)))) (cprM (needV va y1) (needV vb y2) (needE vb y2)).2 := by
  refine ok54c.con (k := false) (Nat.le_of_ble_eq_true rfl) (mO_closed _ _ _) trivial ?_
  have hb : ((0 : Int) != 0) = false := rfl
  have n1 := (walk122 p env va 0 y1 hp).to trivial
  have n2 := (walk122 q env vb (needE va y1) y2 hq).to trivial
  have c124 := (walk124 (needV va y1) (needV vb y2) env (needE vb y2)).to trivial
  have c121 := walk121.call trivial
  have hl : findM .i [(.int .i64 8, .fn (.func 172) [] []), (.int .i64 9, .fn (.func 173) [] []), (.int .i64 10, .fn (.func 174) [] []), (.int .i64 11, .fn (.func 175) [] [])] (.int .i64 11) = some (some (.fn (.func 175) [] [])) := rfl
  rw [relM] at c121
  generalize cprM (needV va y1) (needV vb y2) (needE vb y2) = R at *
  generalize needV va y1 = wa at *
  generalize needV vb y2 = wb at *
  generalize needE vb y2 = x2 at *
  generalize needE va y1 = x1 at *
  have cR := (walk175 R.1).call trivial
  have cB := (walk123 (relB 11 R.1)).call trivial
  have hr : relB 11 R.1 = decide (R.1 ≥ 0) := rfl
  rw [← hr] at cR
  generalize relB 11 R.1 = B at *
  generalize boolV B = W at *
  rw [encE_eq]
  simp only [Exp.op, Exp.int, Exp.text, Exp.value, Exp.args, List.map_cons, List.map_nil]
  rw [encE_eq p] at n1 ⊢
  rw [encE_eq q] at n2 ⊢
  rw [encV_eq] at n1 n2 cB ⊢
  rw [encV_eq wa, encV_eq wb] at c124
  simp only [go_sem, ir54c, mC, hb, List.map_cons, List.map_nil, Int.reduceBEq, Nat.reduceAdd, Nat.reduceEqDiff, Nat.reduceBEq, Nat.reduceLeDiff, reduceCtorEq, ↓reduceIte]
  refine wpsL_call rfl c121 trivial ?_
  simp only [go_sem, hl, Option.getD_some, Option.isSome_some, Int.reduceBEq, Nat.reduceAdd, Nat.reduceEqDiff, Nat.reduceBEq, Nat.reduceLeDiff, reduceCtorEq, ↓reduceIte]
  refine ⟨rfl, ?_⟩
  simp only [go_sem, b54_0, nthA, nthB, Int.reduceBEq, Nat.reduceAdd, Nat.reduceEqDiff, Nat.reduceBEq, Nat.reduceLeDiff, reduceCtorEq, ↓reduceIte]
  refine ⟨by simp, wps_call rfl n1 ⟨rfl, trivial⟩ ?_⟩
  simp only [go_sem, mC, nthA, nthB, List.map_cons, List.map_nil, Int.reduceBEq, Nat.reduceAdd, Nat.reduceEqDiff, Nat.reduceBEq, Nat.reduceLeDiff, reduceCtorEq, ↓reduceIte]
  refine ⟨by simp, wps_call rfl n2 ⟨rfl, trivial⟩ ?_⟩
  simp only [go_sem, mC, nthA, nthB, List.map_cons, List.map_nil, Int.reduceBEq, Nat.reduceAdd, Nat.reduceEqDiff, Nat.reduceBEq, Nat.reduceLeDiff, reduceCtorEq, ↓reduceIte]
  refine wps_call rfl c124 ⟨rfl, trivial⟩ ?_
  simp only [go_sem, mC, List.map_cons, List.map_nil, Int.reduceBEq, Nat.reduceAdd, Nat.reduceEqDiff, Nat.reduceBEq, Nat.reduceLeDiff, reduceCtorEq, ↓reduceIte]
  refine wps_call rfl cR trivial ?_
  simp only [go_sem, mC, List.map_cons, List.map_nil, Int.reduceBEq, Nat.reduceAdd, Nat.reduceEqDiff, Nat.reduceBEq, Nat.reduceLeDiff, reduceCtorEq, ↓reduceIte]
  refine wps_call rfl cB trivial ?_
  simp only [go_sem, mC, List.map_cons, List.map_nil, Int.reduceBEq, Nat.reduceAdd, Nat.reduceEqDiff, Nat.reduceBEq, Nat.reduceLeDiff, reduceCtorEq, ↓reduceIte]
  try exact ⟨rfl, rfl⟩
end Go.Proofs
/- expr.Eval, Condition; the law's constants. -/
set_option linter.unusedSimpArgs false
set_option linter.unusedVariables false
set_option maxRecDepth 10000
namespace Go.Proofs
open Go Av

theorem MCon.at {f : Nat} {ds : List Dat} {env : Val} {x y : Int} {v : Av} (h : MCon f ds env x v y) (hv : pureR v) (i : Nat) : CallOK Tryz.prog f (.ref i 0 :: ds.map .d) [(i, some (mO env x))] v [(i, mO env y)] := Con.rw1 h hv i
/-- what Eval answers, given what eval does -/
def evalR (c k : Int) (v : Val) (y : Int) : Val × Int := if c != 0 then (zeroV, c) else if k != 9 then (zeroV, 11) else if y != 0 then (zeroV, y) else (v, 0)
theorem walk18 (e : Exp) (env v : Val) (y : Int) (hv : okV v) (h : MCon 54 [encE e] env 0 (.d (encV v)) y) :
    PCon Tryz.prog 18 [encE e, encV env] (.tup [.d (encV (evalR (chkX e) env.kind v y).1), .d (.int .i64 (evalR (chkX e) env.kind v y).2)]) := by
  refine ok18.pcon (Nat.le_of_ble_eq_true rfl) (by simp [inTR, idsIn, idsInL]) ?_
  have c53 := (walk53 e).call trivial
  have c54 := h.at trivial 21
  have c55 := (walk55 v hv).call trivial
  generalize hT : evalR (chkX e) env.kind v y = T
  unfold evalR at hT
  generalize chkX e = c at *
  rw [encE_eq] at c53 c54 ⊢
  rw [encV_eq v] at c54 c55
  rw [encV_eq env, encV_eq T.1]
  simp only [go_sem, ir18, Nat.reduceAdd, Nat.reduceEqDiff, Nat.reduceBEq, Nat.reduceLeDiff, reduceCtorEq, ↓reduceIte]
  refine wps_call rfl c53 trivial ?_
  simp only [go_sem, Nat.reduceAdd, Nat.reduceEqDiff, Nat.reduceBEq, Nat.reduceLeDiff, reduceCtorEq, ↓reduceIte]
  refine ⟨fun h0 => ?_, fun h0 => ?_⟩
  · rw [if_pos h0] at hT
    subst hT
    first | exact ⟨rfl, rfl⟩ | exact rfl
  rw [if_neg (by rw [h0]; exact Bool.false_ne_true)] at hT
  try simp only [go_sem, Nat.reduceAdd, Nat.reduceEqDiff, Nat.reduceBEq, Nat.reduceLeDiff, reduceCtorEq, ↓reduceIte]
  refine ⟨fun h1 => ?_, fun h1 => ?_⟩
  · rw [if_pos h1] at hT
    subst hT
    first | exact ⟨rfl, rfl⟩ | exact rfl
  rw [if_neg (by rw [h1]; exact Bool.false_ne_true)] at hT
  try simp only [go_sem, Nat.reduceAdd, Nat.reduceEqDiff, Nat.reduceBEq, Nat.reduceLeDiff, reduceCtorEq, ↓reduceIte]
  refine wps_call rfl c54 ⟨rfl, trivial⟩ ?_
  simp only [go_sem, mC, List.map_cons, List.map_nil, Nat.reduceAdd, Nat.reduceEqDiff, Nat.reduceBEq, Nat.reduceLeDiff, reduceCtorEq, ↓reduceIte]
  refine ⟨fun h2 => ?_, fun h2 => ?_⟩
  · rw [if_pos h2] at hT
    subst hT
    first | exact ⟨rfl, rfl⟩ | exact rfl
  rw [if_neg (by rw [h2]; exact Bool.false_ne_true)] at hT
  subst hT
  try simp only [go_sem, Nat.reduceAdd, Nat.reduceEqDiff, Nat.reduceBEq, Nat.reduceLeDiff, reduceCtorEq, ↓reduceIte]
  refine wps_call rfl c55 trivial ?_
  simp only [go_sem, Nat.reduceAdd, Nat.reduceEqDiff, Nat.reduceBEq, Nat.reduceLeDiff, reduceCtorEq, ↓reduceIte]

def condR (R : Val × Int) : Bool × Int := if R.2 != 0 then (false, R.2) else if nullV R.1 then (false, 19) else if R.1.kind != 1 then (false, 18) else (R.1.int == 1, 0)
theorem walk19 (e : Exp) (env v : Val) (y : Int) (hv : okV v) (h : MCon 54 [encE e] env 0 (.d (encV v)) y) :
    PCon Tryz.prog 19 [encE e, encV env] (.tup [.d (.bool (condR (evalR (chkX e) env.kind v y)).1), .d (.int .i64 (condR (evalR (chkX e) env.kind v y)).2)]) := by
  refine ok19.pcon (Nat.le_of_ble_eq_true rfl) (by simp [inTR, idsIn, idsInL]) ?_
  have c18 := (walk18 e env v y hv h).call (by simp [pureR])
  generalize evalR (chkX e) env.kind v y = R at *
  have c13 := (walk13 R.1).call trivial
  generalize hT : condR R = T
  unfold condR at hT
  rw [encE_eq] at c18 ⊢
  rw [encV_eq env, encV_eq R.1] at c18
  rw [encV_eq R.1] at c13
  rw [encV_eq env]
  simp only [go_sem, ir19, Nat.reduceAdd, Nat.reduceEqDiff, Nat.reduceBEq, Nat.reduceLeDiff, reduceCtorEq, ↓reduceIte]
  refine wps_call rfl c18 trivial ?_
  simp only [go_sem, Nat.reduceAdd, Nat.reduceEqDiff, Nat.reduceBEq, Nat.reduceLeDiff, reduceCtorEq, ↓reduceIte]
  refine ⟨fun h0 => ?_, fun h0 => ?_⟩
  · rw [if_pos h0] at hT
    subst hT
    first | exact ⟨rfl, rfl⟩ | exact rfl
  rw [if_neg (by rw [h0]; exact Bool.false_ne_true)] at hT
  refine wps_call rfl c13 trivial ?_
  simp only [go_sem, Nat.reduceAdd, Nat.reduceEqDiff, Nat.reduceBEq, Nat.reduceLeDiff, reduceCtorEq, ↓reduceIte]
  refine ⟨fun h1 => ?_, fun h1 => ?_⟩
  · rw [if_pos h1] at hT
    subst hT
    first | exact ⟨rfl, rfl⟩ | exact rfl
  rw [if_neg (by rw [h1]; exact Bool.false_ne_true)] at hT
  try simp only [go_sem, Nat.reduceAdd, Nat.reduceEqDiff, Nat.reduceBEq, Nat.reduceLeDiff, reduceCtorEq, ↓reduceIte]
  refine ⟨fun h2 => ?_, fun h2 => ?_⟩
  · rw [if_pos h2] at hT
    subst hT
    first | exact ⟨rfl, rfl⟩ | exact rfl
  rw [if_neg (by rw [h2]; exact Bool.false_ne_true)] at hT
  subst hT
  exact rfl

/-- a number as the law's constant -/
def cstV (a : Int × Int) : Val := .mk 3 a.1 a.2 [] [] []
theorem walk52 (a : Int × Int) : PCon Tryz.prog 52 [encN a, .bool false] (.d (encV (cstV a))) := by
  refine ok52.pcon (Nat.le_of_ble_eq_true rfl) trivial ?_
  simp only [go_sem, ir52, encN, Nat.reduceAdd, Nat.reduceEqDiff, Nat.reduceBEq, Nat.reduceLeDiff, reduceCtorEq, ↓reduceIte]
  rfl
theorem walk17 (a : Int × Int) : PCon Tryz.prog 17 [encN a, .bool false] (.d (encE (.mk 1 0 [] [cstV a] []))) := by
  refine ok17.pcon (Nat.le_of_ble_eq_true rfl) trivial ?_
  have c52 := (walk52 a).call trivial
  rw [encE_eq]
  simp only [encN] at c52
  simp only [go_sem, ir17, encN, Exp.op, Exp.int, Exp.text, Exp.value, Exp.args, List.map_cons, List.map_nil, Nat.reduceAdd, Nat.reduceEqDiff, Nat.reduceBEq, Nat.reduceLeDiff, reduceCtorEq, ↓reduceIte]
  generalize cstV a = w at *
  rw [encV_eq] at c52 ⊢
  refine wps_call rfl c52 trivial ?_
  simp only [go_sem, Nat.reduceAdd, Nat.reduceEqDiff, Nat.reduceBEq, Nat.reduceLeDiff, reduceCtorEq, ↓reduceIte]
  intro x hx
  rcases List.mem_singleton.1 hx with rfl
  rfl
end Go.Proofs
