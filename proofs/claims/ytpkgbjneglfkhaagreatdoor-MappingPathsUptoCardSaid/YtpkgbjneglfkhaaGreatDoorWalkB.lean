/- value.Clone. -/
import Derived.Test.YtpkgbjneglfkhaaGreatDoorWalkA
set_option linter.unusedVariables false
set_option linter.unusedSimpArgs false
set_option linter.unusedSectionVars false
set_option linter.unusedSimpArgs false
set_option maxRecDepth 10000
namespace Go.Proofs
open Go Av
theorem step59 (a : Val) (ha : a.list.length ≤ 68719476736) (ha2 : a.fields.length ≤ 68719476736) (h1 : ∀ x ∈ a.list, CallOK Tryz.prog 59 [.d (encV x)] [] (.d (encV x)) []) (h2 : ∀ x ∈ a.fields, CallOK Tryz.prog 59 [.d (encV x.value)] [] (.d (encV x.value)) []) :
    PCon Tryz.prog 59 [encV a] (.d (encV a)) := by
  refine ok59.pcon (Nat.le_of_ble_eq_true rfl) trivial ?_
  rw [encV_eq]
  simp only [go_sem, ir59, Nat.reduceAdd, Nat.reduceEqDiff, Nat.reduceBEq, Nat.reduceLeDiff, reduceCtorEq, ↓reduceIte]
  refine wpc_loop (fun n s => ∃ k : Nat, k ≤ a.list.length ∧ n = a.list.length - k ∧
    s = ⟨[(1, .ref 1 0), (2, .ref 2 0), (3, .ref 3 0), (12, .d (.list 6 (a.list.map encV))), (13, .d (.int .i64 a.list.length)), (14, .d (.int .i64 k))],
      [(1, .box [.d (.int .i64 a.kind), .d (.int .i64 a.int), .d (.int .i64 a.scale), .d (.str a.text), .d (.list 6 (a.list.map encV)), .d (.list 7 (a.fields.map encF))]),
       (2, .box [.d (.int .i64 0), .d (.int .i64 0), .d (.int .i64 0), .d (.str []), .d (.nil 6), .d (.nil 7)]),
       (3, .box [.d (.int .i64 a.kind), .d (.int .i64 a.int), .d (.int .i64 a.scale), .d (.str a.text), .ms 23 k, .d (.nil 7)]),
       (23, .row k 6 ((a.list.take k).map encV))]⟩) ?_ ?_
  · refine ⟨_, _, Wk.nilB 3 4 23 6 _ rfl rfl rfl (by decide), 0, Nat.zero_le _, rfl, ?_⟩
    simp [put]
  · rintro n s ⟨k, hk, rfl, rfl⟩
    by_cases hlt : k < a.list.length
    · have hx := nth_encV hlt
      have hd : decide ((k : Int) < (a.list.length : Int)) = true := by simp; omega
      simp only [go_sem, hx, hd, Int.toNat_natCast, Nat.reduceAdd, Nat.reduceEqDiff, Nat.reduceBEq, Nat.reduceLeDiff, reduceCtorEq, ↓reduceIte]
      have hc := h1 a.list[k] (List.getElem_mem _)
      rw [encV_eq] at hc
      refine ⟨by simp; omega, wpsL_call rfl hc trivial ?_⟩
      simp only [go_sem, Nat.reduceAdd, Nat.reduceEqDiff, Nat.reduceBEq, Nat.reduceLeDiff, reduceCtorEq, ↓reduceIte]
      refine ⟨by simp, by simp; omega, rfl, a.list.length - (k + 1), _, by omega, Wk.less ?_, k + 1, by omega, rfl, rfl⟩
      rw [List.take_succ_eq_append_getElem hlt, List.map_append]
      simp only [go_sem, wrap64s k (by omega), List.map_cons, List.map_nil, encV_eq a.list[k], Nat.reduceAdd, Nat.reduceEqDiff, Nat.reduceBEq, Nat.reduceLeDiff, reduceCtorEq, ↓reduceIte]
    · have hd : decide ((k : Int) < (a.list.length : Int)) = false := by simp; omega
      obtain rfl : k = a.list.length := by omega
      simp only [go_sem, hd, List.take_length, Nat.reduceAdd, Nat.reduceEqDiff, Nat.reduceBEq, Nat.reduceLeDiff, reduceCtorEq, ↓reduceIte]
      refine wpc_loop (fun n s => ∃ k : Nat, k ≤ a.fields.length ∧ n = a.fields.length - k ∧
        s = ⟨[(2, .ref 2 0), (3, .ref 3 0), (27, .d (.list 7 (a.fields.map encF))), (28, .d (.int .i64 a.fields.length)), (29, .d (.int .i64 k))],
          [(2, .box [.d (.int .i64 0), .d (.int .i64 0), .d (.int .i64 0), .d (.str []), .d (.nil 6), .d (.nil 7)]),
           (3, .box [.d (.int .i64 a.kind), .d (.int .i64 a.int), .d (.int .i64 a.scale), .d (.str a.text), .ms 23 a.list.length, .ms 42 k]),
           (23, .row a.list.length 6 (a.list.map encV)),
           (42, .row k 7 ((a.fields.take k).map encF))]⟩) ?_ ?_
      · refine ⟨_, _, (Wk.nilB 3 5 42 7 _ rfl rfl rfl (by decide)).trans (Wk.less ?_), 0, Nat.zero_le _, rfl, rfl⟩
        simp [put, go_sem]
      · rintro n s ⟨k, hk, rfl, rfl⟩
        by_cases hlt : k < a.fields.length
        · have hx := nth_encF hlt
          have hd : decide ((k : Int) < (a.fields.length : Int)) = true := by simp; omega
          have hc := h2 a.fields[k] (List.getElem_mem _)
          rw [encV_eq] at hc
          simp only [go_sem, hx, hd, Int.toNat_natCast, Nat.reduceAdd, Nat.reduceEqDiff, Nat.reduceBEq, Nat.reduceLeDiff, reduceCtorEq, ↓reduceIte]
          refine ⟨by simp; omega, wpsL_call rfl hc trivial ?_⟩
          simp only [go_sem, Nat.reduceAdd, Nat.reduceEqDiff, Nat.reduceBEq, Nat.reduceLeDiff, reduceCtorEq, ↓reduceIte]
          refine ⟨by simp, by simp; omega, rfl, a.fields.length - (k + 1), _, by omega, Wk.less ?_, k + 1, by omega, rfl, rfl⟩
          rw [List.take_succ_eq_append_getElem hlt, List.map_append]
          simp only [go_sem, wrap64s k (by omega), List.map_cons, List.map_nil, encF_eq a.fields[k], Nat.reduceAdd, Nat.reduceEqDiff, Nat.reduceBEq, Nat.reduceLeDiff, reduceCtorEq, ↓reduceIte]
        · have hd : decide ((k : Int) < (a.fields.length : Int)) = false := by simp; omega
          obtain rfl : k = a.fields.length := by omega
          simp only [go_sem, hd, List.take_length, Nat.reduceAdd, Nat.reduceEqDiff, Nat.reduceBEq, Nat.reduceLeDiff, reduceCtorEq, ↓reduceIte]

mutual
theorem walk59 : ∀ (a : Val), okV a → PCon Tryz.prog 59 [encV a] (.d (encV a))
  | .mk k i s t l f, ha => by
    simp only [okV] at ha
    obtain ⟨a1, a2, a3, a4⟩ := ha
    exact step59 _ a1 a2 (fun x hx => (walk59s l a3 x hx).call trivial) (fun x hx => (walk59f f a4 x hx).call trivial)
theorem walk59s : ∀ (l : List Val), okVs l → ∀ x ∈ l, PCon Tryz.prog 59 [encV x] (.d (encV x))
  | [], _, x, h => by cases h
  | v :: r, ho, x, h => by
    simp only [okVs] at ho
    by_cases e : x = v
    · rw [e]; exact walk59 v ho.1
    · exact walk59s r ho.2 x ((List.mem_cons.1 h).resolve_left e)
theorem walk59f : ∀ (l : List Fld), okFs l → ∀ x ∈ l, PCon Tryz.prog 59 [encV x.value] (.d (encV x.value))
  | [], _, x, h => by cases h
  | .mk n v :: r, ho, x, h => by
    simp only [okFs, okF] at ho
    by_cases e : x = .mk n v
    · rw [e]; exact walk59 v ho.1
    · exact walk59f r ho.2 x ((List.mem_cons.1 h).resolve_left e)
end
end Go.Proofs
/- expr.Clone. -/
set_option linter.unusedSimpArgs false
set_option maxRecDepth 10000
namespace Go.Proofs
open Go Av
theorem step94 (a : Exp) (ha : a.value.length ≤ 68719476736) (ha2 : a.args.length ≤ 68719476736) (h1 : ∀ x ∈ a.value, CallOK Tryz.prog 59 [.d (encV x)] [] (.d (encV x)) []) (h2 : ∀ x ∈ a.args, CallOK Tryz.prog 94 [.d (encE x)] [] (.d (encE x)) []) :
    PCon Tryz.prog 94 [encE a] (.d (encE a)) := by
  refine ok94.pcon (Nat.le_of_ble_eq_true rfl) trivial ?_
  rw [encE_eq]
  simp only [go_sem, ir94, Nat.reduceAdd, Nat.reduceEqDiff, Nat.reduceBEq, Nat.reduceLeDiff, reduceCtorEq, ↓reduceIte]
  refine wpc_loop (fun n s => ∃ k : Nat, k ≤ a.value.length ∧ n = a.value.length - k ∧
    s = ⟨[(1, .ref 1 0), (2, .ref 2 0), (3, .ref 3 0), (16, .d (.list 6 (a.value.map encV))), (17, .d (.int .i64 a.value.length)), (18, .d (.int .i64 k))],
      [(1, .box [.d (.int .i64 a.op), .d (.int .i64 a.int), .d (.str a.text), .d (.list 6 (a.value.map encV)), .d (.list 5 (a.args.map encE))]),
       (2, .box [.d (.int .i64 0), .d (.int .i64 0), .d (.str []), .d (.nil 6), .d (.nil 5)]),
       (3, .box [.d (.int .i64 a.op), .d (.int .i64 a.int), .d (.str a.text), .ms 27 k, .d (.nil 5)]),
       (27, .row k 6 ((a.value.take k).map encV))]⟩) ?_ ?_
  · refine ⟨_, _, Wk.nilB 3 3 27 6 _ rfl rfl rfl (by decide), 0, Nat.zero_le _, rfl, ?_⟩
    simp [put]
  · rintro n s ⟨k, hk, rfl, rfl⟩
    by_cases hlt : k < a.value.length
    · have hx := nth_encV hlt
      have hd : decide ((k : Int) < (a.value.length : Int)) = true := by simp; omega
      simp only [go_sem, hx, hd, Int.toNat_natCast, Nat.reduceAdd, Nat.reduceEqDiff, Nat.reduceBEq, Nat.reduceLeDiff, reduceCtorEq, ↓reduceIte]
      have hc := h1 a.value[k] (List.getElem_mem _)
      rw [encV_eq] at hc
      refine ⟨by simp; omega, wpsL_call rfl hc trivial ?_⟩
      simp only [go_sem, Nat.reduceAdd, Nat.reduceEqDiff, Nat.reduceBEq, Nat.reduceLeDiff, reduceCtorEq, ↓reduceIte]
      refine ⟨by simp, by simp; omega, rfl, a.value.length - (k + 1), _, by omega, Wk.less ?_, k + 1, by omega, rfl, rfl⟩
      rw [List.take_succ_eq_append_getElem hlt, List.map_append]
      simp only [go_sem, wrap64s k (by omega), List.map_cons, List.map_nil, encV_eq a.value[k], Nat.reduceAdd, Nat.reduceEqDiff, Nat.reduceBEq, Nat.reduceLeDiff, reduceCtorEq, ↓reduceIte]
    · have hd : decide ((k : Int) < (a.value.length : Int)) = false := by simp; omega
      obtain rfl : k = a.value.length := by omega
      simp only [go_sem, hd, List.take_length, Nat.reduceAdd, Nat.reduceEqDiff, Nat.reduceBEq, Nat.reduceLeDiff, reduceCtorEq, ↓reduceIte]
      refine wpc_loop (fun n s => ∃ k : Nat, k ≤ a.args.length ∧ n = a.args.length - k ∧
        s = ⟨[(2, .ref 2 0), (3, .ref 3 0), (31, .d (.list 5 (a.args.map encE))), (32, .d (.int .i64 a.args.length)), (33, .d (.int .i64 k))],
          [(2, .box [.d (.int .i64 0), .d (.int .i64 0), .d (.str []), .d (.nil 6), .d (.nil 5)]),
           (3, .box [.d (.int .i64 a.op), .d (.int .i64 a.int), .d (.str a.text), .ms 27 a.value.length, .ms 42 k]),
           (27, .row a.value.length 6 (a.value.map encV)),
           (42, .row k 5 ((a.args.take k).map encE))]⟩) ?_ ?_
      · refine ⟨_, _, (Wk.nilB 3 4 42 5 _ rfl rfl rfl (by decide)).trans (Wk.less ?_), 0, Nat.zero_le _, rfl, rfl⟩
        simp [put, go_sem]
      · rintro n s ⟨k, hk, rfl, rfl⟩
        by_cases hlt : k < a.args.length
        · have hx := nth_encE hlt
          have hd : decide ((k : Int) < (a.args.length : Int)) = true := by simp; omega
          have hc := h2 a.args[k] (List.getElem_mem _)
          rw [encE_eq] at hc
          simp only [go_sem, hx, hd, Int.toNat_natCast, Nat.reduceAdd, Nat.reduceEqDiff, Nat.reduceBEq, Nat.reduceLeDiff, reduceCtorEq, ↓reduceIte]
          refine ⟨by simp; omega, wpsL_call rfl hc trivial ?_⟩
          simp only [go_sem, Nat.reduceAdd, Nat.reduceEqDiff, Nat.reduceBEq, Nat.reduceLeDiff, reduceCtorEq, ↓reduceIte]
          refine ⟨by simp, by simp; omega, rfl, a.args.length - (k + 1), _, by omega, Wk.less ?_, k + 1, by omega, rfl, rfl⟩
          rw [List.take_succ_eq_append_getElem hlt, List.map_append]
          simp only [go_sem, wrap64s k (by omega), List.map_cons, List.map_nil, encE_eq a.args[k], Nat.reduceAdd, Nat.reduceEqDiff, Nat.reduceBEq, Nat.reduceLeDiff, reduceCtorEq, ↓reduceIte]
        · have hd : decide ((k : Int) < (a.args.length : Int)) = false := by simp; omega
          obtain rfl : k = a.args.length := by omega
          simp only [go_sem, hd, List.take_length, Nat.reduceAdd, Nat.reduceEqDiff, Nat.reduceBEq, Nat.reduceLeDiff, reduceCtorEq, ↓reduceIte]

mutual
theorem walk94 : ∀ (a : Exp), okE a → PCon Tryz.prog 94 [encE a] (.d (encE a))
  | .mk o i t v l, ha => by
    simp only [okE] at ha
    obtain ⟨a1, a2, a3, a4⟩ := ha
    exact step94 _ a1 a2 (fun x hx => (walk59s v a3 x hx).call trivial) (fun x hx => (walk94s l a4 x hx).call trivial)
theorem walk94s : ∀ (l : List Exp), okEs l → ∀ x ∈ l, PCon Tryz.prog 94 [encE x] (.d (encE x))
  | [], _, x, h => by cases h
  | v :: r, ho, x, h => by
    simp only [okEs] at ho
    by_cases e : x = v
    · rw [e]; exact walk94 v ho.1
    · exact walk94s r ho.2 x ((List.mem_cons.1 h).resolve_left e)
end
end Go.Proofs
/- The tests of size: smallValue, SmallValue. -/
set_option linter.unusedSimpArgs false
set_option maxRecDepth 10000
namespace Go.Proofs
open Go Av

mutual
def smV : Val → Int → Int → Bool × Int
  | .mk _ _ _ t l f, d, n =>
    if decide (IntKind.i64.wrap (n - 1) < 0) || d == 0 || decide ((t.length : Int) > 2000) then (false, IntKind.i64.wrap (n - 1))
    else if (smVs l (IntKind.i64.wrap (d - 1)) (IntKind.i64.wrap (n - 1))).1 then smFs f (IntKind.i64.wrap (d - 1)) (smVs l (IntKind.i64.wrap (d - 1)) (IntKind.i64.wrap (n - 1))).2
    else (false, (smVs l (IntKind.i64.wrap (d - 1)) (IntKind.i64.wrap (n - 1))).2)
def smVs : List Val → Int → Int → Bool × Int
  | [], _, n => (true, n)
  | v :: r, d, n => if (smV v d n).1 then smVs r d (smV v d n).2 else (false, (smV v d n).2)
def smFs : List Fld → Int → Int → Bool × Int
  | [], _, n => (true, n)
  | .mk s v :: r, d, n => if decide ((s.length : Int) > 100) then (false, n) else if (smV v d n).1 then smFs r d (smV v d n).2 else (false, (smV v d n).2)
end

theorem smV_eq (a : Val) (d n : Int) : smV a d n = if decide (IntKind.i64.wrap (n - 1) < 0) || d == 0 || decide ((a.text.length : Int) > 2000) then (false, IntKind.i64.wrap (n - 1))
    else if (smVs a.list (IntKind.i64.wrap (d - 1)) (IntKind.i64.wrap (n - 1))).1 then smFs a.fields (IntKind.i64.wrap (d - 1)) (smVs a.list (IntKind.i64.wrap (d - 1)) (IntKind.i64.wrap (n - 1))).2
    else (false, (smVs a.list (IntKind.i64.wrap (d - 1)) (IntKind.i64.wrap (n - 1))).2) := by
  cases a; rw [smV]; rfl

theorem smFs_cons (x : Fld) (r : List Fld) (d n : Int) : smFs (x :: r) d n = if decide ((x.name.length : Int) > 100) then (false, n) else if (smV x.value d n).1 then smFs r d (smV x.value d n).2 else (false, (smV x.value d n).2) := by
  cases x; rw [smFs]; rfl

theorem step85 (a : Val) (d n : Int) (ha : a.list.length ≤ 68719476736) (ha2 : a.fields.length ≤ 68719476736)
    (h1 : ∀ x ∈ a.list, ∀ d n, Con Tryz.prog 85 [.d (encV x), .d (.int .i64 d), .ref 1000 0] [(1000, .box [.d (.int .i64 n)])] (.d (.bool (smV x d n).1)) [(1000, .box [.d (.int .i64 (smV x d n).2)])])
    (h2 : ∀ x ∈ a.fields, ∀ d n, Con Tryz.prog 85 [.d (encV x.value), .d (.int .i64 d), .ref 1000 0] [(1000, .box [.d (.int .i64 n)])] (.d (.bool (smV x.value d n).1)) [(1000, .box [.d (.int .i64 (smV x.value d n).2)])]) :
    Con Tryz.prog 85 [.d (encV a), .d (.int .i64 d), .ref 1000 0] [(1000, .box [.d (.int .i64 n)])] (.d (.bool (smV a d n).1)) [(1000, .box [.d (.int .i64 (smV a d n).2)])] := by
  refine ok85.con (k := false) (Nat.le_of_ble_eq_true rfl) (closed_puts (by simp [puts, put, closedH, objIn, idsInL, idsIn])) trivial ?_
  rw [encV_eq]
  simp only [go_sem, ir85, Nat.reduceAdd, Nat.reduceEqDiff, Nat.reduceBEq, Nat.reduceLeDiff, reduceCtorEq, ↓reduceIte]
  refine scQ_pure (d == 0) (fun _ => ?_) ?_
  all_goals simp only [go_sem, Nat.reduceAdd, Nat.reduceEqDiff, Nat.reduceBEq, Nat.reduceLeDiff, reduceCtorEq, ↓reduceIte]
  refine scQ_pure (decide ((a.text.length : Int) > 2000)) (fun _ => ?_) ?_
  all_goals simp only [go_sem, Nat.reduceAdd, Nat.reduceEqDiff, Nat.reduceBEq, Nat.reduceLeDiff, reduceCtorEq, ↓reduceIte]
  refine ⟨fun hb => ?_, fun hb => ?_⟩
  · simp only [smV_eq a d n, hb, and_self, ↓reduceIte]
  rw [smV_eq a d n, hb]
  simp only [Bool.false_eq_true, ↓reduceIte]
  generalize hw : IntKind.i64.wrap (n - 1) = w
  generalize hd1 : IntKind.i64.wrap (d - 1) = d1
  refine wpc_loop (fun r s => ∃ (k : Nat) (m : Int), k ≤ a.list.length ∧ r = a.list.length - k ∧ smVs a.list d1 w = smVs (a.list.drop k) d1 m ∧
    s = ⟨[(1, .d (.int .i64 d)), (2, .ref 1000 0), (3, .ref 3 0), (7, .d (.int .i64 k))],
      [(1000, .box [.d (.int .i64 m)]), (3, .box [.d (.int .i64 a.kind), .d (.int .i64 a.int), .d (.int .i64 a.scale), .d (.str a.text), .d (.list 6 (a.list.map encV)), .d (.list 7 (a.fields.map encF))])]⟩) ?_ ?_
  · exact ⟨_, _, Wk.refl _, 0, w, Nat.zero_le _, rfl, rfl, rfl⟩
  · rintro r s ⟨k, m, hk, rfl, hinv, rfl⟩
    by_cases hlt : k < a.list.length
    · have hx := nth_encV hlt
      have hd : decide ((k : Int) < (a.list.length : Int)) = true := by simp; omega
      simp only [go_sem, hx, hd, hd1, Int.toNat_natCast, List.length_map, Nat.reduceAdd, Nat.reduceEqDiff, Nat.reduceBEq, Nat.reduceLeDiff, reduceCtorEq, ↓reduceIte]
      have hc := (h1 a.list[k] (List.getElem_mem _) d1 m).cnt (ds := [encV a.list[k], .int .i64 d1]) 1000
      rw [encV_eq] at hc
      refine ⟨by omega, wps_call rfl hc ⟨rfl, trivial⟩ ?_⟩
      simp only [go_sem, Nat.reduceAdd, Nat.reduceEqDiff, Nat.reduceBEq, Nat.reduceLeDiff, reduceCtorEq, ↓reduceIte]
      rw [List.drop_eq_getElem_cons hlt, smVs] at hinv
      refine ⟨fun hf => ?_, fun hf => ?_⟩
      · simp only [Bool.not_eq_true'] at hf
        rw [hf] at hinv
        simp only [Bool.false_eq_true, ↓reduceIte] at hinv
        rw [hinv]
        simp only [go_sem, Nat.reduceAdd, Nat.reduceEqDiff, Nat.reduceBEq, Nat.reduceLeDiff, reduceCtorEq, ↓reduceIte]
      · simp only [Bool.not_eq_false'] at hf
        rw [hf] at hinv
        simp only [↓reduceIte] at hinv
        refine ⟨a.list.length - (k + 1), _, by omega, Wk.less ?_, k + 1, (smV a.list[k] d1 m).2, by omega, rfl, hinv, rfl⟩
        simp only [go_sem, wrap64s k (by omega), Nat.reduceAdd, Nat.reduceEqDiff, Nat.reduceBEq, Nat.reduceLeDiff, reduceCtorEq, ↓reduceIte]
    · have hd : decide ((k : Int) < (a.list.length : Int)) = false := by simp; omega
      obtain rfl : k = a.list.length := by omega
      rw [List.drop_length, smVs] at hinv
      simp only [go_sem, hd, hinv, List.length_map, Nat.reduceAdd, Nat.reduceEqDiff, Nat.reduceBEq, Nat.reduceLeDiff, reduceCtorEq, ↓reduceIte]
      refine wpc_loop (fun r s => ∃ (k : Nat) (m' : Int), k ≤ a.fields.length ∧ r = a.fields.length - k ∧ smFs a.fields d1 m = smFs (a.fields.drop k) d1 m' ∧
        s = ⟨[(1, .d (.int .i64 d)), (2, .ref 1000 0), (3, .ref 3 0), (8, .d (.int .i64 k))],
          [(1000, .box [.d (.int .i64 m')]), (3, .box [.d (.int .i64 a.kind), .d (.int .i64 a.int), .d (.int .i64 a.scale), .d (.str a.text), .d (.list 6 (a.list.map encV)), .d (.list 7 (a.fields.map encF))])]⟩) ?_ ?_
      · exact ⟨_, _, Wk.refl _, 0, m, Nat.zero_le _, rfl, rfl, rfl⟩
      · clear hinv
        rintro r s ⟨k, m', hk, rfl, hinv, rfl⟩
        by_cases hlt : k < a.fields.length
        · have hx := nth_encF hlt
          have hd : decide ((k : Int) < (a.fields.length : Int)) = true := by simp; omega
          have hc := (h2 a.fields[k] (List.getElem_mem _) d1 m').cnt (ds := [encV a.fields[k].value, .int .i64 d1]) 1000
          rw [encV_eq] at hc
          rw [List.drop_eq_getElem_cons hlt] at hinv
          rw [smFs_cons] at hinv
          by_cases hg : (a.fields[k].name.length : Int) > 100
          · have hg' : decide ((a.fields[k].name.length : Int) > 100) = true := by simpa using hg
            rw [hg'] at hinv
            simp only [↓reduceIte] at hinv
            simp only [go_sem, hx, hd, hd1, hg', hinv, Int.toNat_natCast, List.length_map, Nat.reduceAdd, Nat.reduceEqDiff, Nat.reduceBEq, Nat.reduceLeDiff, reduceCtorEq, ↓reduceIte]
            exact ⟨by omega, by decide⟩
          · have hg' : decide ((a.fields[k].name.length : Int) > 100) = false := by simpa using hg
            rw [hg'] at hinv
            simp only [Bool.false_eq_true, ↓reduceIte] at hinv
            simp only [go_sem, hx, hd, hd1, hg', Int.toNat_natCast, List.length_map, Nat.reduceAdd, Nat.reduceEqDiff, Nat.reduceBEq, Nat.reduceLeDiff, reduceCtorEq, ↓reduceIte]
            refine ⟨by omega, by decide, by omega, ?_⟩
            refine wps_call rfl hc ⟨rfl, trivial⟩ ?_
            simp only [go_sem, Nat.reduceAdd, Nat.reduceEqDiff, Nat.reduceBEq, Nat.reduceLeDiff, reduceCtorEq, ↓reduceIte]
            · refine ⟨fun hf => ?_, fun hf => ?_⟩
              · simp only [Bool.not_eq_true'] at hf
                rw [hf] at hinv
                simp only [Bool.false_eq_true, ↓reduceIte] at hinv
                rw [hinv]
                simp only [go_sem, Nat.reduceAdd, Nat.reduceEqDiff, Nat.reduceBEq, Nat.reduceLeDiff, reduceCtorEq, ↓reduceIte]
              · simp only [Bool.not_eq_false'] at hf
                rw [hf] at hinv
                simp only [↓reduceIte] at hinv
                refine ⟨a.fields.length - (k + 1), _, by omega, Wk.less ?_, k + 1, (smV a.fields[k].value d1 m').2, by omega, rfl, hinv, rfl⟩
                simp only [go_sem, wrap64s k (by omega), Nat.reduceAdd, Nat.reduceEqDiff, Nat.reduceBEq, Nat.reduceLeDiff, reduceCtorEq, ↓reduceIte]
        · have hd : decide ((k : Int) < (a.fields.length : Int)) = false := by simp; omega
          obtain rfl : k = a.fields.length := by omega
          rw [List.drop_length, smFs] at hinv
          simp only [go_sem, hd, hinv, List.length_map, Nat.reduceAdd, Nat.reduceEqDiff, Nat.reduceBEq, Nat.reduceLeDiff, reduceCtorEq, ↓reduceIte]

mutual
theorem walk85 : ∀ (a : Val), okV a → ∀ d n, Con Tryz.prog 85 [.d (encV a), .d (.int .i64 d), .ref 1000 0] [(1000, .box [.d (.int .i64 n)])] (.d (.bool (smV a d n).1)) [(1000, .box [.d (.int .i64 (smV a d n).2)])]
  | .mk k i s t l f, ha, d, n => by
    simp only [okV] at ha
    obtain ⟨a1, a2, a3, a4⟩ := ha
    exact step85 _ d n a1 a2 (fun x hx d n => walk85s l a3 x hx d n) (fun x hx d n => walk85f f a4 x hx d n)
theorem walk85s : ∀ (l : List Val), okVs l → ∀ x ∈ l, ∀ d n, Con Tryz.prog 85 [.d (encV x), .d (.int .i64 d), .ref 1000 0] [(1000, .box [.d (.int .i64 n)])] (.d (.bool (smV x d n).1)) [(1000, .box [.d (.int .i64 (smV x d n).2)])]
  | [], _, x, h, _, _ => by cases h
  | v :: r, ho, x, h, d, n => by
    simp only [okVs] at ho
    by_cases e : x = v
    · rw [e]; exact walk85 v ho.1 d n
    · exact walk85s r ho.2 x ((List.mem_cons.1 h).resolve_left e) d n
theorem walk85f : ∀ (l : List Fld), okFs l → ∀ x ∈ l, ∀ d n, Con Tryz.prog 85 [.d (encV x.value), .d (.int .i64 d), .ref 1000 0] [(1000, .box [.d (.int .i64 n)])] (.d (.bool (smV x.value d n).1)) [(1000, .box [.d (.int .i64 (smV x.value d n).2)])]
  | [], _, x, h, _, _ => by cases h
  | .mk n' v :: r, ho, x, h, d, n => by
    simp only [okFs, okF] at ho
    by_cases e : x = .mk n' v
    · rw [e]; exact walk85 v ho.1 d n
    · exact walk85f r ho.2 x ((List.mem_cons.1 h).resolve_left e) d n
end

def smallV (a : Val) : Bool := (smV a 12 300).1
theorem walk26 (a : Val) (ha : okV a) : PCon Tryz.prog 26 [encV a] (.d (.bool (smallV a))) := by
  refine ok26.pcon (Nat.le_of_ble_eq_true rfl) trivial ?_
  have hc := (walk85 a ha 12 300).cnt (ds := [encV a, .int .i64 12]) 3
  rw [encV_eq] at hc ⊢
  simp only [go_sem, ir26, Nat.reduceAdd, Nat.reduceEqDiff, Nat.reduceBEq, Nat.reduceLeDiff, reduceCtorEq, ↓reduceIte]
  refine wps_call rfl hc ⟨rfl, trivial⟩ ?_
  simp only [go_sem, Nat.reduceAdd, Nat.reduceEqDiff, Nat.reduceBEq, Nat.reduceLeDiff, reduceCtorEq, ↓reduceIte]
  rfl
end Go.Proofs
/- The tests of size: smallExpr, SmallExpr, Small. -/
set_option linter.unusedSimpArgs false
set_option maxRecDepth 10000
namespace Go.Proofs
open Go Av

mutual
def smE : Exp → Int → Int → Bool × Int
  | .mk _ _ t v a, d, n =>
    if decide (IntKind.i64.wrap (n - 1) < 0) || d == 0 || decide ((t.length : Int) > 2000) || decide ((v.length : Int) > 3) then (false, IntKind.i64.wrap (n - 1))
    else if v.all smallV then smEs a (IntKind.i64.wrap (d - 1)) (IntKind.i64.wrap (n - 1)) else (false, IntKind.i64.wrap (n - 1))
def smEs : List Exp → Int → Int → Bool × Int
  | [], _, n => (true, n)
  | v :: r, d, n => if (smE v d n).1 then smEs r d (smE v d n).2 else (false, (smE v d n).2)
end
theorem smE_eq (a : Exp) (d n : Int) : smE a d n = if decide (IntKind.i64.wrap (n - 1) < 0) || d == 0 || decide ((a.text.length : Int) > 2000) || decide ((a.value.length : Int) > 3) then (false, IntKind.i64.wrap (n - 1))
    else if a.value.all smallV then smEs a.args (IntKind.i64.wrap (d - 1)) (IntKind.i64.wrap (n - 1)) else (false, IntKind.i64.wrap (n - 1)) := by
  cases a; rw [smE]; rfl

theorem step150 (a : Exp) (d n : Int) (ha : a.value.length ≤ 68719476736) (ha2 : a.args.length ≤ 68719476736)
    (h1 : ∀ x ∈ a.value, PCon Tryz.prog 26 [encV x] (.d (.bool (smallV x))))
    (h2 : ∀ x ∈ a.args, ∀ d n, Con Tryz.prog 150 [.d (encE x), .d (.int .i64 d), .ref 1000 0] [(1000, .box [.d (.int .i64 n)])] (.d (.bool (smE x d n).1)) [(1000, .box [.d (.int .i64 (smE x d n).2)])]) :
    Con Tryz.prog 150 [.d (encE a), .d (.int .i64 d), .ref 1000 0] [(1000, .box [.d (.int .i64 n)])] (.d (.bool (smE a d n).1)) [(1000, .box [.d (.int .i64 (smE a d n).2)])] := by
  refine ok150.con (k := false) (Nat.le_of_ble_eq_true rfl) (closed_puts (by simp [puts, put, closedH, objIn, idsInL, idsIn])) trivial ?_
  rw [encE_eq]
  simp only [go_sem, ir150, Nat.reduceAdd, Nat.reduceEqDiff, Nat.reduceBEq, Nat.reduceLeDiff, reduceCtorEq, ↓reduceIte]
  refine scQ_pure (d == 0) (fun _ => ?_) ?_
  all_goals simp only [go_sem, Nat.reduceAdd, Nat.reduceEqDiff, Nat.reduceBEq, Nat.reduceLeDiff, reduceCtorEq, ↓reduceIte]
  refine scQ_pure (decide ((a.text.length : Int) > 2000)) (fun _ => ?_) ?_
  all_goals simp only [go_sem, Nat.reduceAdd, Nat.reduceEqDiff, Nat.reduceBEq, Nat.reduceLeDiff, reduceCtorEq, ↓reduceIte]
  refine scQ_pure (decide ((a.value.length : Int) > 3)) (fun _ => ?_) ?_
  all_goals simp only [go_sem, List.length_map, Nat.reduceAdd, Nat.reduceEqDiff, Nat.reduceBEq, Nat.reduceLeDiff, reduceCtorEq, ↓reduceIte]
  refine ⟨fun hb => ?_, fun hb => ?_⟩
  · simp only [smE_eq a d n, hb, and_self, ↓reduceIte]
  rw [smE_eq a d n, hb]
  simp only [Bool.false_eq_true, ↓reduceIte]
  generalize hw : IntKind.i64.wrap (n - 1) = w
  generalize hd1 : IntKind.i64.wrap (d - 1) = d1
  refine wpc_loop (fun r s => ∃ (k : Nat), k ≤ a.value.length ∧ r = a.value.length - k ∧ a.value.all smallV = (a.value.drop k).all smallV ∧
    s = ⟨[(1, .d (.int .i64 d)), (2, .ref 1000 0), (3, .ref 3 0), (7, .d (.int .i64 k))],
      [(1000, .box [.d (.int .i64 w)]), (3, .box [.d (.int .i64 a.op), .d (.int .i64 a.int), .d (.str a.text), .d (.list 6 (a.value.map encV)), .d (.list 5 (a.args.map encE))])]⟩) ?_ ?_
  · exact ⟨_, _, Wk.refl _, 0, Nat.zero_le _, rfl, rfl, rfl⟩
  · rintro r s ⟨k, hk, rfl, hinv, rfl⟩
    by_cases hlt : k < a.value.length
    · have hx := nth_encV hlt
      have hd : decide ((k : Int) < (a.value.length : Int)) = true := by simp; omega
      simp only [go_sem, hx, hd, hd1, Int.toNat_natCast, List.length_map, Nat.reduceAdd, Nat.reduceEqDiff, Nat.reduceBEq, Nat.reduceLeDiff, reduceCtorEq, ↓reduceIte]
      have hc := (h1 a.value[k] (List.getElem_mem _)).call trivial
      rw [encV_eq] at hc
      refine ⟨by omega, wps_call rfl hc trivial ?_⟩
      simp only [go_sem, Nat.reduceAdd, Nat.reduceEqDiff, Nat.reduceBEq, Nat.reduceLeDiff, reduceCtorEq, ↓reduceIte]
      rw [List.drop_eq_getElem_cons hlt, List.all_cons] at hinv
      refine ⟨fun hf => ?_, fun hf => ?_⟩
      · simp only [Bool.not_eq_true'] at hf
        rw [hf, Bool.false_and] at hinv
        simp only [go_sem, hinv, Nat.reduceAdd, Nat.reduceEqDiff, Nat.reduceBEq, Nat.reduceLeDiff, reduceCtorEq, ↓reduceIte]
      · simp only [Bool.not_eq_false'] at hf
        rw [hf, Bool.true_and] at hinv
        refine ⟨a.value.length - (k + 1), _, by omega, Wk.less ?_, k + 1, by omega, rfl, hinv, rfl⟩
        simp only [go_sem, wrap64s k (by omega), Nat.reduceAdd, Nat.reduceEqDiff, Nat.reduceBEq, Nat.reduceLeDiff, reduceCtorEq, ↓reduceIte]
    · have hd : decide ((k : Int) < (a.value.length : Int)) = false := by simp; omega
      obtain rfl : k = a.value.length := by omega
      rw [List.drop_length, List.all_nil] at hinv
      simp only [go_sem, hd, hinv, List.length_map, Nat.reduceAdd, Nat.reduceEqDiff, Nat.reduceBEq, Nat.reduceLeDiff, reduceCtorEq, ↓reduceIte]
      refine wpc_loop (fun r s => ∃ (k : Nat) (m' : Int), k ≤ a.args.length ∧ r = a.args.length - k ∧ smEs a.args d1 w = smEs (a.args.drop k) d1 m' ∧
        s = ⟨[(1, .d (.int .i64 d)), (2, .ref 1000 0), (3, .ref 3 0), (8, .d (.int .i64 k))],
          [(1000, .box [.d (.int .i64 m')]), (3, .box [.d (.int .i64 a.op), .d (.int .i64 a.int), .d (.str a.text), .d (.list 6 (a.value.map encV)), .d (.list 5 (a.args.map encE))])]⟩) ?_ ?_
      · exact ⟨_, _, Wk.refl _, 0, w, Nat.zero_le _, rfl, rfl, rfl⟩
      · clear hinv
        rintro r s ⟨k, m', hk, rfl, hinv, rfl⟩
        by_cases hlt : k < a.args.length
        · have hx := nth_encE hlt
          have hd : decide ((k : Int) < (a.args.length : Int)) = true := by simp; omega
          have hc := (h2 a.args[k] (List.getElem_mem _) d1 m').cnt (ds := [encE a.args[k], .int .i64 d1]) 1000
          rw [encE_eq] at hc
          rw [List.drop_eq_getElem_cons hlt, smEs] at hinv
          simp only [go_sem, hx, hd, hd1, Int.toNat_natCast, List.length_map, Nat.reduceAdd, Nat.reduceEqDiff, Nat.reduceBEq, Nat.reduceLeDiff, reduceCtorEq, ↓reduceIte]
          refine ⟨by omega, wps_call rfl hc ⟨rfl, trivial⟩ ?_⟩
          simp only [go_sem, Nat.reduceAdd, Nat.reduceEqDiff, Nat.reduceBEq, Nat.reduceLeDiff, reduceCtorEq, ↓reduceIte]
          refine ⟨fun hf => ?_, fun hf => ?_⟩
          · simp only [Bool.not_eq_true'] at hf
            rw [hf] at hinv
            simp only [Bool.false_eq_true, ↓reduceIte] at hinv
            rw [hinv]
            simp only [go_sem, Nat.reduceAdd, Nat.reduceEqDiff, Nat.reduceBEq, Nat.reduceLeDiff, reduceCtorEq, ↓reduceIte]
          · simp only [Bool.not_eq_false'] at hf
            rw [hf] at hinv
            simp only [↓reduceIte] at hinv
            refine ⟨a.args.length - (k + 1), _, by omega, Wk.less ?_, k + 1, (smE a.args[k] d1 m').2, by omega, rfl, hinv, rfl⟩
            simp only [go_sem, wrap64s k (by omega), Nat.reduceAdd, Nat.reduceEqDiff, Nat.reduceBEq, Nat.reduceLeDiff, reduceCtorEq, ↓reduceIte]
        · have hd : decide ((k : Int) < (a.args.length : Int)) = false := by simp; omega
          obtain rfl : k = a.args.length := by omega
          rw [List.drop_length, smEs] at hinv
          simp only [go_sem, hd, hinv, List.length_map, Nat.reduceAdd, Nat.reduceEqDiff, Nat.reduceBEq, Nat.reduceLeDiff, reduceCtorEq, ↓reduceIte]

mutual
theorem walk150 : ∀ (a : Exp), okE a → ∀ d n, Con Tryz.prog 150 [.d (encE a), .d (.int .i64 d), .ref 1000 0] [(1000, .box [.d (.int .i64 n)])] (.d (.bool (smE a d n).1)) [(1000, .box [.d (.int .i64 (smE a d n).2)])]
  | .mk o i t v l, ha, d, n => by
    simp only [okE] at ha
    obtain ⟨a1, a2, a3, a4⟩ := ha
    exact step150 _ d n a1 a2 (fun x hx => walk26 x (okVs_mem a3 x hx)) (fun x hx d n => walk150s l a4 x hx d n)
theorem walk150s : ∀ (l : List Exp), okEs l → ∀ x ∈ l, ∀ d n, Con Tryz.prog 150 [.d (encE x), .d (.int .i64 d), .ref 1000 0] [(1000, .box [.d (.int .i64 n)])] (.d (.bool (smE x d n).1)) [(1000, .box [.d (.int .i64 (smE x d n).2)])]
  | [], _, x, h, _, _ => by cases h
  | v :: r, ho, x, h, d, n => by
    simp only [okEs] at ho
    by_cases e : x = v
    · rw [e]; exact walk150 v ho.1 d n
    · exact walk150s r ho.2 x ((List.mem_cons.1 h).resolve_left e) d n
end

def smallE (a : Exp) : Bool := (smE a 12 150).1
theorem walk77 (a : Exp) (ha : okE a) : PCon Tryz.prog 77 [encE a] (.d (.bool (smallE a))) := by
  refine ok77.pcon (Nat.le_of_ble_eq_true rfl) trivial ?_
  have hc := (walk150 a ha 12 150).cnt (ds := [encE a, .int .i64 12]) 3
  rw [encE_eq] at hc ⊢
  simp only [go_sem, ir77, Nat.reduceAdd, Nat.reduceEqDiff, Nat.reduceBEq, Nat.reduceLeDiff, reduceCtorEq, ↓reduceIte]
  refine wps_call rfl hc ⟨rfl, trivial⟩ ?_
  simp only [go_sem, Nat.reduceAdd, Nat.reduceEqDiff, Nat.reduceBEq, Nat.reduceLeDiff, reduceCtorEq, ↓reduceIte]
  rfl

def smallR (r : Rule) : Bool := !(decide ((r.target.length : Int) > 300) || !smallE r.expr)
def smallM (m : List Rule) : Bool := !decide ((m.length : Int) > 12) && m.all smallR

theorem walk23 (m : List Rule) (hm : okM m) : PCon Tryz.prog 23 [encM m] (.d (.bool (smallM m))) := by
  refine ok23.pcon (Nat.le_of_ble_eq_true rfl) trivial ?_
  have hml := hm.1
  simp only [go_sem, ir23, encM, List.length_map, Nat.reduceAdd, Nat.reduceEqDiff, Nat.reduceBEq, Nat.reduceLeDiff, reduceCtorEq, ↓reduceIte]
  refine ⟨fun hb => ?_, fun hb => ?_⟩
  · simp only [smallM, hb, Bool.not_true, Bool.false_and]
  · rw [smallM, hb, Bool.not_false, Bool.true_and]
    refine wpc_loop (fun r s => ∃ (k : Nat), k ≤ m.length ∧ r = m.length - k ∧ m.all smallR = (m.drop k).all smallR ∧
      s = ⟨[(1, .ref 1 0), (3, .d (.int .i64 k))], [(1, .box [.d (.list 6 (m.map encR))])]⟩) ?_ ?_
    · exact ⟨_, _, Wk.refl _, 0, Nat.zero_le _, rfl, rfl, rfl⟩
    · rintro r s ⟨k, hk, rfl, hinv, rfl⟩
      by_cases hlt : k < m.length
      · have hx := nth_encR hlt
        have hd : decide ((k : Int) < (m.length : Int)) = true := by simp; omega
        have hc := (walk77 m[k].expr (hm.2 _ (List.getElem_mem _))).call trivial
        rw [encE_eq] at hc
        rw [List.drop_eq_getElem_cons hlt, List.all_cons, smallR] at hinv
        simp only [go_sem, hx, hd, Int.toNat_natCast, List.length_map, Nat.reduceAdd, Nat.reduceEqDiff, Nat.reduceBEq, Nat.reduceLeDiff, reduceCtorEq, ↓reduceIte]
        refine ⟨by omega, by decide, scQ_pure (!smallE m[k].expr) (fun _ => ?_) ?_⟩
        all_goals simp only [go_sem, hx, Int.toNat_natCast, List.length_map, Nat.reduceAdd, Nat.reduceEqDiff, Nat.reduceBEq, Nat.reduceLeDiff, reduceCtorEq, ↓reduceIte]
        · refine ⟨by omega, wps_call rfl hc trivial ?_⟩
          simp only [go_sem, Nat.reduceAdd, Nat.reduceEqDiff, Nat.reduceBEq, Nat.reduceLeDiff, reduceCtorEq, ↓reduceIte]
        · refine ⟨fun hf => ?_, fun hf => ?_⟩
          · rw [hf, Bool.not_true, Bool.false_and] at hinv
            simp only [go_sem, hinv, Nat.reduceAdd, Nat.reduceEqDiff, Nat.reduceBEq, Nat.reduceLeDiff, reduceCtorEq, ↓reduceIte]
          · rw [hf, Bool.not_false, Bool.true_and] at hinv
            refine ⟨m.length - (k + 1), _, by omega, Wk.less ?_, k + 1, by omega, rfl, hinv, rfl⟩
            simp only [go_sem, wrap64s k (by omega), Nat.reduceAdd, Nat.reduceEqDiff, Nat.reduceBEq, Nat.reduceLeDiff, reduceCtorEq, ↓reduceIte]
      · have hd : decide ((k : Int) < (m.length : Int)) = false := by simp; omega
        obtain rfl : k = m.length := by omega
        rw [List.drop_length, List.all_nil] at hinv
        simp only [go_sem, hd, hinv, List.length_map, Nat.reduceAdd, Nat.reduceEqDiff, Nat.reduceBEq, Nat.reduceLeDiff, reduceCtorEq, ↓reduceIte]
end Go.Proofs
