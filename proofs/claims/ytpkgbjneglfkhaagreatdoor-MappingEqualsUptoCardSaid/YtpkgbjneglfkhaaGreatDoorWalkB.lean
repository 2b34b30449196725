/- Equality is equality. -/
import Derived.Test.YtpkgbjneglfkhaaGreatDoorWalkA
import Derived.Lib.Bytealg
set_option linter.unusedVariables false
set_option linter.unusedSimpArgs false
namespace Go.Proofs
open Go Av

theorem cmpBytes_iff : ∀ (a b : Str), Lib.compareBytes a b = 0 ↔ a = b
  | [], [] => by simp [Lib.compareBytes]
  | [], _ :: _ => by simp [Lib.compareBytes]
  | _ :: _, [] => by simp [Lib.compareBytes]
  | a :: r, b :: s => by
    rw [Lib.compareBytes]
    by_cases h : a < b
    · simp only [h, ↓reduceIte, List.cons.injEq]
      refine ⟨fun h => by omega, fun e => absurd h ?_⟩
      rw [e.1]; exact UInt8.lt_irrefl _
    · by_cases h' : b < a
      · simp only [h, h', ↓reduceIte, List.cons.injEq]
        refine ⟨fun h => by omega, fun e => absurd h' ?_⟩
        rw [e.1]; exact UInt8.lt_irrefl _
      · simp only [h, h', ↓reduceIte, List.cons.injEq, cmpBytes_iff r s]
        have : a = b := UInt8.le_antisymm (UInt8.not_lt.1 h') (UInt8.not_lt.1 h)
        simp [this]

theorem cmpS_iff (a b : Str) : cmpS a b = 0 ↔ a = b := by
  rw [cmpS, Lib.cmp_eq]
  exact cmpBytes_iff a b
theorem cmpI_iff (a b : Int) : cmpI a b = 0 ↔ a = b := by
  unfold cmpI
  split
  · omega
  · split <;> omega
theorem orI_iff : ∀ (l : List Int), orI l = 0 ↔ ∀ x ∈ l, x = 0
  | [] => by simp [orI]
  | x :: r => by
    rw [orI]
    by_cases h : x = 0
    · simp [h, orI_iff r]
    · simp [h]

mutual
theorem cmpV_iff : ∀ (a b : Val), cmpV a b = 0 ↔ a = b
  | .mk k i s t l f, .mk k' i' s' t' l' f' => by
    rw [cmpV, orI_iff]
    simp only [List.mem_cons, List.not_mem_nil, or_false, forall_eq_or_imp, forall_eq, cmpI_iff, cmpS_iff, Val.kind, Val.int, Val.scale, Val.text, Val.list, Val.fields, cmpVs_iff l, cmpFs_iff f, Val.mk.injEq]
theorem cmpVs_iff : ∀ (a b : List Val), cmpVs a b = 0 ↔ a = b
  | [], [] => by simp [cmpVs]
  | [], _ :: _ => by simp [cmpVs]
  | _ :: _, [] => by simp [cmpVs]
  | x :: xs, y :: ys => by
    rw [cmpVs, List.cons.injEq, ← cmpV_iff x y, ← cmpVs_iff xs ys]
    by_cases h : cmpV x y = 0
    · simp [h]
    · simp [h]
theorem cmpF_iff : ∀ (a b : Fld), cmpF a b = 0 ↔ a = b
  | .mk n v, .mk n' v' => by
    rw [cmpF, orI_iff]
    simp only [List.mem_cons, List.not_mem_nil, or_false, forall_eq_or_imp, forall_eq, cmpS_iff, Fld.name, Fld.value, cmpV_iff v, Fld.mk.injEq]
theorem cmpFs_iff : ∀ (a b : List Fld), cmpFs a b = 0 ↔ a = b
  | [], [] => by simp [cmpFs]
  | [], _ :: _ => by simp [cmpFs]
  | _ :: _, [] => by simp [cmpFs]
  | x :: xs, y :: ys => by
    rw [cmpFs, List.cons.injEq, ← cmpF_iff x y, ← cmpFs_iff xs ys]
    by_cases h : cmpF x y = 0
    · simp [h]
    · simp [h]
end

theorem eqF_true {α : Type} {eq : α → α → Bool} : ∀ (xs ys : List α), (∀ x ∈ xs, ∀ y ∈ ys, (eq x y = true ↔ x = y)) → (eqF eq xs ys = true ↔ xs = ys)
  | [], [], _ => by simp [eqF]
  | [], _ :: _, _ => by simp [eqF]
  | _ :: _, [], _ => by simp [eqF]
  | x :: xs, y :: ys, h => by
    have ih := eqF_true xs ys fun a ha b hb => h a (List.mem_cons_of_mem _ ha) b (List.mem_cons_of_mem _ hb)
    have h0 := h x (List.mem_cons_self ..) y (List.mem_cons_self ..)
    simp only [eqF, List.length_cons, List.zip_cons_cons, List.all_cons, Bool.and_eq_true, beq_iff_eq, Nat.add_right_cancel_iff, h0, List.cons.injEq] at ih ⊢
    rw [← ih]
    exact ⟨fun h => ⟨h.2.1, h.1, h.2.2⟩, fun h => ⟨h.2.1, h.1, h.2.2⟩⟩

mutual
theorem eqE_iff : ∀ (a b : Exp), eqE a b = true ↔ a = b
  | .mk o i t v l, .mk o' i' t' v' l' => by
    have h1 : eqF (fun x y => cmpV x y == 0) v v' = true ↔ v = v' := eqF_true _ _ fun x _ y _ => by simp [cmpV_iff]
    simp only [eqE, Bool.and_eq_true, beq_iff_eq, Exp.op, Exp.int, Exp.text, Exp.value, Exp.args, h1, eqEs_iff l l', Exp.mk.injEq, and_assoc]
theorem eqEs_iff : ∀ (a b : List Exp), eqEs a b = true ↔ a = b
  | [], [] => by simp [eqEs]
  | [], _ :: _ => by simp [eqEs]
  | _ :: _, [] => by simp [eqEs]
  | x :: xs, y :: ys => by simp only [eqEs, Bool.and_eq_true, eqE_iff x y, eqEs_iff xs ys, List.cons.injEq]
end
theorem eqR_iff (a b : Rule) : eqR a b = true ↔ a = b := by
  cases a; cases b
  simp only [eqR, Bool.and_eq_true, beq_iff_eq, eqE_iff, Rule.mk.injEq]
theorem eqM_iff (a b : List Rule) : eqM a b = true ↔ a = b := eqF_true a b fun x _ y _ => eqR_iff x y
theorem eqM_symm (a b : List Rule) : eqM a b = eqM b a := by
  rw [Bool.eq_iff_iff, eqM_iff, eqM_iff]; exact eq_comm
theorem eqM_self (a : List Rule) : eqM a a = true := (eqM_iff a a).2 rfl
end Go.Proofs
/- value.Clone. -/
set_option linter.unusedSimpArgs false
set_option maxRecDepth 10000
namespace Go.Proofs
open Go Av
theorem step59 (a : Val) (ha : a.list.length ≤ 68719476736) (ha2 : a.fields.length ≤ 68719476736) (h1 : ∀ x ∈ a.list, CallOK Tryz.prog 59 [.d (encV x)] [] (.d (encV x)) []) (h2 : ∀ x ∈ a.fields, CallOK Tryz.prog 59 [.d (encV x.value)] [] (.d (encV x.value)) []) :
    PCon Tryz.prog 59 [encV a] (.d (encV a)) := by
  refine ok59.pcon (Nat.le_of_ble_eq_true rfl) trivial ?_
  rw [encV_eq]
  simp only [go_sem, ir59, Nat.reduceAdd, Nat.reduceEqDiff, Nat.reduceBEq, Nat.reduceLeDiff, reduceCtorEq, ↓reduceIte]
  refine wpc_loop (fun n s => ∃ k : Nat, k ≤ a.list.length ∧ n = a.list.length - k ∧
    s = ⟨[(1, .ref 1 0), (2, .ref 2 0), (3, .ref 3 0), (12, .d (.list 6 (a.list.map encV))), (13, .d (.int .i64 a.list.length)), (14, .d (.int .i64 k))],
      [(1, .box [.d (.int .i64 a.kind), .d (.int .i64 a.int), .d (.int .i64 a.scale), .d (.str a.text), .d (.list 6 (a.list.map encV)), .d (.list 7 (a.fields.map encF))]),
       (2, .box [.d (.int .i64 0), .d (.int .i64 0), .d (.int .i64 0), .d (.str []), .d (.nil 6), .d (.nil 7)]),
       (3, .box [.d (.int .i64 a.kind), .d (.int .i64 a.int), .d (.int .i64 a.scale), .d (.str a.text), .ms 23 k, .d (.nil 7)]),
       (23, .row k 6 ((a.list.take k).map encV))]⟩) ?_ ?_
  · refine ⟨_, _, Wk.nilB 3 4 23 6 _ rfl rfl rfl (by decide), 0, Nat.zero_le _, rfl, ?_⟩
    simp [put]
  · rintro n s ⟨k, hk, rfl, rfl⟩
    by_cases hlt : k < a.list.length
    · have hx := nth_encV hlt
      have hd : decide ((k : Int) < (a.list.length : Int)) = true := by simp; omega
      simp only [go_sem, hx, hd, Int.toNat_natCast, Nat.reduceAdd, Nat.reduceEqDiff, Nat.reduceBEq, Nat.reduceLeDiff, reduceCtorEq, ↓reduceIte]
      have hc := h1 a.list[k] (List.getElem_mem _)
      rw [encV_eq] at hc
      refine ⟨by simp; omega, wpsL_call rfl hc trivial ?_⟩
      simp only [go_sem, Nat.reduceAdd, Nat.reduceEqDiff, Nat.reduceBEq, Nat.reduceLeDiff, reduceCtorEq, ↓reduceIte]
      refine ⟨by simp, by simp; omega, rfl, a.list.length - (k + 1), _, by omega, Wk.less ?_, k + 1, by omega, rfl, rfl⟩
      rw [List.take_succ_eq_append_getElem hlt, List.map_append]
      simp only [go_sem, wrap64s k (by omega), List.map_cons, List.map_nil, encV_eq a.list[k], Nat.reduceAdd, Nat.reduceEqDiff, Nat.reduceBEq, Nat.reduceLeDiff, reduceCtorEq, ↓reduceIte]
    · have hd : decide ((k : Int) < (a.list.length : Int)) = false := by simp; omega
      obtain rfl : k = a.list.length := by omega
      simp only [go_sem, hd, List.take_length, Nat.reduceAdd, Nat.reduceEqDiff, Nat.reduceBEq, Nat.reduceLeDiff, reduceCtorEq, ↓reduceIte]
      refine wpc_loop (fun n s => ∃ k : Nat, k ≤ a.fields.length ∧ n = a.fields.length - k ∧
        s = ⟨[(2, .ref 2 0), (3, .ref 3 0), (27, .d (.list 7 (a.fields.map encF))), (28, .d (.int .i64 a.fields.length)), (29, .d (.int .i64 k))],
          [(2, .box [.d (.int .i64 0), .d (.int .i64 0), .d (.int .i64 0), .d (.str []), .d (.nil 6), .d (.nil 7)]),
           (3, .box [.d (.int .i64 a.kind), .d (.int .i64 a.int), .d (.int .i64 a.scale), .d (.str a.text), .ms 23 a.list.length, .ms 42 k]),
           (23, .row a.list.length 6 (a.list.map encV)),
           (42, .row k 7 ((a.fields.take k).map encF))]⟩) ?_ ?_
      · refine ⟨_, _, (Wk.nilB 3 5 42 7 _ rfl rfl rfl (by decide)).trans (Wk.less ?_), 0, Nat.zero_le _, rfl, rfl⟩
        simp [put, go_sem]
      · rintro n s ⟨k, hk, rfl, rfl⟩
        by_cases hlt : k < a.fields.length
        · have hx := nth_encF hlt
          have hd : decide ((k : Int) < (a.fields.length : Int)) = true := by simp; omega
          have hc := h2 a.fields[k] (List.getElem_mem _)
          rw [encV_eq] at hc
          simp only [go_sem, hx, hd, Int.toNat_natCast, Nat.reduceAdd, Nat.reduceEqDiff, Nat.reduceBEq, Nat.reduceLeDiff, reduceCtorEq, ↓reduceIte]
          refine ⟨by simp; omega, wpsL_call rfl hc trivial ?_⟩
          simp only [go_sem, Nat.reduceAdd, Nat.reduceEqDiff, Nat.reduceBEq, Nat.reduceLeDiff, reduceCtorEq, ↓reduceIte]
          refine ⟨by simp, by simp; omega, rfl, a.fields.length - (k + 1), _, by omega, Wk.less ?_, k + 1, by omega, rfl, rfl⟩
          rw [List.take_succ_eq_append_getElem hlt, List.map_append]
          simp only [go_sem, wrap64s k (by omega), List.map_cons, List.map_nil, encF_eq a.fields[k], Nat.reduceAdd, Nat.reduceEqDiff, Nat.reduceBEq, Nat.reduceLeDiff, reduceCtorEq, ↓reduceIte]
        · have hd : decide ((k : Int) < (a.fields.length : Int)) = false := by simp; omega
          obtain rfl : k = a.fields.length := by omega
          simp only [go_sem, hd, List.take_length, Nat.reduceAdd, Nat.reduceEqDiff, Nat.reduceBEq, Nat.reduceLeDiff, reduceCtorEq, ↓reduceIte]

mutual
theorem walk59 : ∀ (a : Val), okV a → PCon Tryz.prog 59 [encV a] (.d (encV a))
  | .mk k i s t l f, ha => by
    simp only [okV] at ha
    obtain ⟨a1, a2, a3, a4⟩ := ha
    exact step59 _ a1 a2 (fun x hx => (walk59s l a3 x hx).call trivial) (fun x hx => (walk59f f a4 x hx).call trivial)
theorem walk59s : ∀ (l : List Val), okVs l → ∀ x ∈ l, PCon Tryz.prog 59 [encV x] (.d (encV x))
  | [], _, x, h => by cases h
  | v :: r, ho, x, h => by
    simp only [okVs] at ho
    by_cases e : x = v
    · rw [e]; exact walk59 v ho.1
    · exact walk59s r ho.2 x ((List.mem_cons.1 h).resolve_left e)
theorem walk59f : ∀ (l : List Fld), okFs l → ∀ x ∈ l, PCon Tryz.prog 59 [encV x.value] (.d (encV x.value))
  | [], _, x, h => by cases h
  | .mk n v :: r, ho, x, h => by
    simp only [okFs, okF] at ho
    by_cases e : x = .mk n v
    · rw [e]; exact walk59 v ho.1
    · exact walk59f r ho.2 x ((List.mem_cons.1 h).resolve_left e)
end
end Go.Proofs
/- expr.Clone. -/
set_option linter.unusedSimpArgs false
set_option maxRecDepth 10000
namespace Go.Proofs
open Go Av
theorem step94 (a : Exp) (ha : a.value.length ≤ 68719476736) (ha2 : a.args.length ≤ 68719476736) (h1 : ∀ x ∈ a.value, CallOK Tryz.prog 59 [.d (encV x)] [] (.d (encV x)) []) (h2 : ∀ x ∈ a.args, CallOK Tryz.prog 94 [.d (encE x)] [] (.d (encE x)) []) :
    PCon Tryz.prog 94 [encE a] (.d (encE a)) := by
  refine ok94.pcon (Nat.le_of_ble_eq_true rfl) trivial ?_
  rw [encE_eq]
  simp only [go_sem, ir94, Nat.reduceAdd, Nat.reduceEqDiff, Nat.reduceBEq, Nat.reduceLeDiff, reduceCtorEq, ↓reduceIte]
  refine wpc_loop (fun n s => ∃ k : Nat, k ≤ a.value.length ∧ n = a.value.length - k ∧
    s = ⟨[(1, .ref 1 0), (2, .ref 2 0), (3, .ref 3 0), (16, .d (.list 6 (a.value.map encV))), (17, .d (.int .i64 a.value.length)), (18, .d (.int .i64 k))],
      [(1, .box [.d (.int .i64 a.op), .d (.int .i64 a.int), .d (.str a.text), .d (.list 6 (a.value.map encV)), .d (.list 5 (a.args.map encE))]),
       (2, .box [.d (.int .i64 0), .d (.int .i64 0), .d (.str []), .d (.nil 6), .d (.nil 5)]),
       (3, .box [.d (.int .i64 a.op), .d (.int .i64 a.int), .d (.str a.text), .ms 27 k, .d (.nil 5)]),
       (27, .row k 6 ((a.value.take k).map encV))]⟩) ?_ ?_
  · refine ⟨_, _, Wk.nilB 3 3 27 6 _ rfl rfl rfl (by decide), 0, Nat.zero_le _, rfl, ?_⟩
    simp [put]
  · rintro n s ⟨k, hk, rfl, rfl⟩
    by_cases hlt : k < a.value.length
    · have hx := nth_encV hlt
      have hd : decide ((k : Int) < (a.value.length : Int)) = true := by simp; omega
      simp only [go_sem, hx, hd, Int.toNat_natCast, Nat.reduceAdd, Nat.reduceEqDiff, Nat.reduceBEq, Nat.reduceLeDiff, reduceCtorEq, ↓reduceIte]
      have hc := h1 a.value[k] (List.getElem_mem _)
      rw [encV_eq] at hc
      refine ⟨by simp; omega, wpsL_call rfl hc trivial ?_⟩
      simp only [go_sem, Nat.reduceAdd, Nat.reduceEqDiff, Nat.reduceBEq, Nat.reduceLeDiff, reduceCtorEq, ↓reduceIte]
      refine ⟨by simp, by simp; omega, rfl, a.value.length - (k + 1), _, by omega, Wk.less ?_, k + 1, by omega, rfl, rfl⟩
      rw [List.take_succ_eq_append_getElem hlt, List.map_append]
      simp only [go_sem, wrap64s k (by omega), List.map_cons, List.map_nil, encV_eq a.value[k], Nat.reduceAdd, Nat.reduceEqDiff, Nat.reduceBEq, Nat.reduceLeDiff, reduceCtorEq, ↓reduceIte]
    · have hd : decide ((k : Int) < (a.value.length : Int)) = false := by simp; omega
      obtain rfl : k = a.value.length := by omega
      simp only [go_sem, hd, List.take_length, Nat.reduceAdd, Nat.reduceEqDiff, Nat.reduceBEq, Nat.reduceLeDiff, reduceCtorEq, ↓reduceIte]
      refine wpc_loop (fun n s => ∃ k : Nat, k ≤ a.args.length ∧ n = a.args.length - k ∧
        s = ⟨[(2, .ref 2 0), (3, .ref 3 0), (31, .d (.list 5 (a.args.map encE))), (32, .d (.int .i64 a.args.length)), (33, .d (.int .i64 k))],
          [(2, .box [.d (.int .i64 0), .d (.int .i64 0), .d (.str []), .d (.nil 6), .d (.nil 5)]),
           (3, .box [.d (.int .i64 a.op), .d (.int .i64 a.int), .d (.str a.text), .ms 27 a.value.length, .ms 42 k]),
           (27, .row a.value.length 6 (a.value.map encV)),
           (42, .row k 5 ((a.args.take k).map encE))]⟩) ?_ ?_
      · refine ⟨_, _, (Wk.nilB 3 4 42 5 _ rfl rfl rfl (by decide)).trans (Wk.less ?_), 0, Nat.zero_le _, rfl, rfl⟩
        simp [put, go_sem]
      · rintro n s ⟨k, hk, rfl, rfl⟩
        by_cases hlt : k < a.args.length
        · have hx := nth_encE hlt
          have hd : decide ((k : Int) < (a.args.length : Int)) = true := by simp; omega
          have hc := h2 a.args[k] (List.getElem_mem _)
          rw [encE_eq] at hc
          simp only [go_sem, hx, hd, Int.toNat_natCast, Nat.reduceAdd, Nat.reduceEqDiff, Nat.reduceBEq, Nat.reduceLeDiff, reduceCtorEq, ↓reduceIte]
          refine ⟨by simp; omega, wpsL_call rfl hc trivial ?_⟩
          simp only [go_sem, Nat.reduceAdd, Nat.reduceEqDiff, Nat.reduceBEq, Nat.reduceLeDiff, reduceCtorEq, ↓reduceIte]
          refine ⟨by simp, by simp; omega, rfl, a.args.length - (k + 1), _, by omega, Wk.less ?_, k + 1, by omega, rfl, rfl⟩
          rw [List.take_succ_eq_append_getElem hlt, List.map_append]
          simp only [go_sem, wrap64s k (by omega), List.map_cons, List.map_nil, encE_eq a.args[k], Nat.reduceAdd, Nat.reduceEqDiff, Nat.reduceBEq, Nat.reduceLeDiff, reduceCtorEq, ↓reduceIte]
        · have hd : decide ((k : Int) < (a.args.length : Int)) = false := by simp; omega
          obtain rfl : k = a.args.length := by omega
          simp only [go_sem, hd, List.take_length, Nat.reduceAdd, Nat.reduceEqDiff, Nat.reduceBEq, Nat.reduceLeDiff, reduceCtorEq, ↓reduceIte]

mutual
theorem walk94 : ∀ (a : Exp), okE a → PCon Tryz.prog 94 [encE a] (.d (encE a))
  | .mk o i t v l, ha => by
    simp only [okE] at ha
    obtain ⟨a1, a2, a3, a4⟩ := ha
    exact step94 _ a1 a2 (fun x hx => (walk59s v a3 x hx).call trivial) (fun x hx => (walk94s l a4 x hx).call trivial)
theorem walk94s : ∀ (l : List Exp), okEs l → ∀ x ∈ l, PCon Tryz.prog 94 [encE x] (.d (encE x))
  | [], _, x, h => by cases h
  | v :: r, ho, x, h => by
    simp only [okEs] at ho
    by_cases e : x = v
    · rw [e]; exact walk94 v ho.1
    · exact walk94s r ho.2 x ((List.mem_cons.1 h).resolve_left e)
end
end Go.Proofs
/- The tests of size: smallValue, SmallValue. -/
set_option linter.unusedSimpArgs false
set_option maxRecDepth 10000
namespace Go.Proofs
open Go Av

mutual
def smV : Val → Int → Int → Bool × Int
  | .mk _ _ _ t l f, d, n =>
    if decide (IntKind.i64.wrap (n - 1) < 0) || d == 0 || decide ((t.length : Int) > 2000) then (false, IntKind.i64.wrap (n - 1))
    else if (smVs l (IntKind.i64.wrap (d - 1)) (IntKind.i64.wrap (n - 1))).1 then smFs f (IntKind.i64.wrap (d - 1)) (smVs l (IntKind.i64.wrap (d - 1)) (IntKind.i64.wrap (n - 1))).2
    else (false, (smVs l (IntKind.i64.wrap (d - 1)) (IntKind.i64.wrap (n - 1))).2)
def smVs : List Val → Int → Int → Bool × Int
  | [], _, n => (true, n)
  | v :: r, d, n => if (smV v d n).1 then smVs r d (smV v d n).2 else (false, (smV v d n).2)
def smFs : List Fld → Int → Int → Bool × Int
  | [], _, n => (true, n)
  | .mk s v :: r, d, n => if decide ((s.length : Int) > 100) then (false, n) else if (smV v d n).1 then smFs r d (smV v d n).2 else (false, (smV v d n).2)
end

theorem smV_eq (a : Val) (d n : Int) : smV a d n = if decide (IntKind.i64.wrap (n - 1) < 0) || d == 0 || decide ((a.text.length : Int) > 2000) then (false, IntKind.i64.wrap (n - 1))
    else if (smVs a.list (IntKind.i64.wrap (d - 1)) (IntKind.i64.wrap (n - 1))).1 then smFs a.fields (IntKind.i64.wrap (d - 1)) (smVs a.list (IntKind.i64.wrap (d - 1)) (IntKind.i64.wrap (n - 1))).2
    else (false, (smVs a.list (IntKind.i64.wrap (d - 1)) (IntKind.i64.wrap (n - 1))).2) := by
  cases a; rw [smV]; rfl

theorem smFs_cons (x : Fld) (r : List Fld) (d n : Int) : smFs (x :: r) d n = if decide ((x.name.length : Int) > 100) then (false, n) else if (smV x.value d n).1 then smFs r d (smV x.value d n).2 else (false, (smV x.value d n).2) := by
  cases x; rw [smFs]; rfl

theorem step85 (a : Val) (d n : Int) (ha : a.list.length ≤ 68719476736) (ha2 : a.fields.length ≤ 68719476736)
    (h1 : ∀ x ∈ a.list, ∀ d n, Con Tryz.prog 85 [.d (encV x), .d (.int .i64 d), .ref 1000 0] [(1000, .box [.d (.int .i64 n)])] (.d (.bool (smV x d n).1)) [(1000, .box [.d (.int .i64 (smV x d n).2)])])
    (h2 : ∀ x ∈ a.fields, ∀ d n, Con Tryz.prog 85 [.d (encV x.value), .d (.int .i64 d), .ref 1000 0] [(1000, .box [.d (.int .i64 n)])] (.d (.bool (smV x.value d n).1)) [(1000, .box [.d (.int .i64 (smV x.value d n).2)])]) :
    Con Tryz.prog 85 [.d (encV a), .d (.int .i64 d), .ref 1000 0] [(1000, .box [.d (.int .i64 n)])] (.d (.bool (smV a d n).1)) [(1000, .box [.d (.int .i64 (smV a d n).2)])] := by
  refine ok85.con (k := false) (Nat.le_of_ble_eq_true rfl) (closed_puts (by simp [puts, put, closedH, objIn, idsInL, idsIn])) trivial ?_
  rw [encV_eq]
  simp only [go_sem, ir85, Nat.reduceAdd, Nat.reduceEqDiff, Nat.reduceBEq, Nat.reduceLeDiff, reduceCtorEq, ↓reduceIte]
  refine scQ_pure (d == 0) (fun _ => ?_) ?_
  all_goals simp only [go_sem, Nat.reduceAdd, Nat.reduceEqDiff, Nat.reduceBEq, Nat.reduceLeDiff, reduceCtorEq, ↓reduceIte]
  refine scQ_pure (decide ((a.text.length : Int) > 2000)) (fun _ => ?_) ?_
  all_goals simp only [go_sem, Nat.reduceAdd, Nat.reduceEqDiff, Nat.reduceBEq, Nat.reduceLeDiff, reduceCtorEq, ↓reduceIte]
  refine ⟨fun hb => ?_, fun hb => ?_⟩
  · simp only [smV_eq a d n, hb, and_self, ↓reduceIte]
  rw [smV_eq a d n, hb]
  simp only [Bool.false_eq_true, ↓reduceIte]
  generalize hw : IntKind.i64.wrap (n - 1) = w
  generalize hd1 : IntKind.i64.wrap (d - 1) = d1
  refine wpc_loop (fun r s => ∃ (k : Nat) (m : Int), k ≤ a.list.length ∧ r = a.list.length - k ∧ smVs a.list d1 w = smVs (a.list.drop k) d1 m ∧
    s = ⟨[(1, .d (.int .i64 d)), (2, .ref 1000 0), (3, .ref 3 0), (7, .d (.int .i64 k))],
      [(1000, .box [.d (.int .i64 m)]), (3, .box [.d (.int .i64 a.kind), .d (.int .i64 a.int), .d (.int .i64 a.scale), .d (.str a.text), .d (.list 6 (a.list.map encV)), .d (.list 7 (a.fields.map encF))])]⟩) ?_ ?_
  · exact ⟨_, _, Wk.refl _, 0, w, Nat.zero_le _, rfl, rfl, rfl⟩
  · rintro r s ⟨k, m, hk, rfl, hinv, rfl⟩
    by_cases hlt : k < a.list.length
    · have hx := nth_encV hlt
      have hd : decide ((k : Int) < (a.list.length : Int)) = true := by simp; omega
      simp only [go_sem, hx, hd, hd1, Int.toNat_natCast, List.length_map, Nat.reduceAdd, Nat.reduceEqDiff, Nat.reduceBEq, Nat.reduceLeDiff, reduceCtorEq, ↓reduceIte]
      have hc := (h1 a.list[k] (List.getElem_mem _) d1 m).cnt (ds := [encV a.list[k], .int .i64 d1]) 1000
      rw [encV_eq] at hc
      refine ⟨by omega, wps_call rfl hc ⟨rfl, trivial⟩ ?_⟩
      simp only [go_sem, Nat.reduceAdd, Nat.reduceEqDiff, Nat.reduceBEq, Nat.reduceLeDiff, reduceCtorEq, ↓reduceIte]
      rw [List.drop_eq_getElem_cons hlt, smVs] at hinv
      refine ⟨fun hf => ?_, fun hf => ?_⟩
      · simp only [Bool.not_eq_true'] at hf
        rw [hf] at hinv
        simp only [Bool.false_eq_true, ↓reduceIte] at hinv
        rw [hinv]
        simp only [go_sem, Nat.reduceAdd, Nat.reduceEqDiff, Nat.reduceBEq, Nat.reduceLeDiff, reduceCtorEq, ↓reduceIte]
      · simp only [Bool.not_eq_false'] at hf
        rw [hf] at hinv
        simp only [↓reduceIte] at hinv
        refine ⟨a.list.length - (k + 1), _, by omega, Wk.less ?_, k + 1, (smV a.list[k] d1 m).2, by omega, rfl, hinv, rfl⟩
        simp only [go_sem, wrap64s k (by omega), Nat.reduceAdd, Nat.reduceEqDiff, Nat.reduceBEq, Nat.reduceLeDiff, reduceCtorEq, ↓reduceIte]
    · have hd : decide ((k : Int) < (a.list.length : Int)) = false := by simp; omega
      obtain rfl : k = a.list.length := by omega
      rw [List.drop_length, smVs] at hinv
      simp only [go_sem, hd, hinv, List.length_map, Nat.reduceAdd, Nat.reduceEqDiff, Nat.reduceBEq, Nat.reduceLeDiff, reduceCtorEq, ↓reduceIte]
      refine wpc_loop (fun r s => ∃ (k : Nat) (m' : Int), k ≤ a.fields.length ∧ r = a.fields.length - k ∧ smFs a.fields d1 m = smFs (a.fields.drop k) d1 m' ∧
        s = ⟨[(1, .d (.int .i64 d)), (2, .ref 1000 0), (3, .ref 3 0), (8, .d (.int .i64 k))],
          [(1000, .box [.d (.int .i64 m')]), (3, .box [.d (.int .i64 a.kind), .d (.int .i64 a.int), .d (.int .i64 a.scale), .d (.str a.text), .d (.list 6 (a.list.map encV)), .d (.list 7 (a.fields.map encF))])]⟩) ?_ ?_
      · exact ⟨_, _, Wk.refl _, 0, m, Nat.zero_le _, rfl, rfl, rfl⟩
      · clear hinv
        rintro r s ⟨k, m', hk, rfl, hinv, rfl⟩
        by_cases hlt : k < a.fields.length
        · have hx := nth_encF hlt
          have hd : decide ((k : Int) < (a.fields.length : Int)) = true := by simp; omega
          have hc := (h2 a.fields[k] (List.getElem_mem _) d1 m').cnt (ds := [encV a.fields[k].value, .int .i64 d1]) 1000
          rw [encV_eq] at hc
          rw [List.drop_eq_getElem_cons hlt] at hinv
          rw [smFs_cons] at hinv
          by_cases hg : (a.fields[k].name.length : Int) > 100
          · have hg' : decide ((a.fields[k].name.length : Int) > 100) = true := by simpa using hg
            rw [hg'] at hinv
            simp only [↓reduceIte] at hinv
            simp only [go_sem, hx, hd, hd1, hg', hinv, Int.toNat_natCast, List.length_map, Nat.reduceAdd, Nat.reduceEqDiff, Nat.reduceBEq, Nat.reduceLeDiff, reduceCtorEq, ↓reduceIte]
            exact ⟨by omega, by decide⟩
          · have hg' : decide ((a.fields[k].name.length : Int) > 100) = false := by simpa using hg
            rw [hg'] at hinv
            simp only [Bool.false_eq_true, ↓reduceIte] at hinv
            simp only [go_sem, hx, hd, hd1, hg', Int.toNat_natCast, List.length_map, Nat.reduceAdd, Nat.reduceEqDiff, Nat.reduceBEq, Nat.reduceLeDiff, reduceCtorEq, ↓reduceIte]
            refine ⟨by omega, by decide, by omega, ?_⟩
            refine wps_call rfl hc ⟨rfl, trivial⟩ ?_
            simp only [go_sem, Nat.reduceAdd, Nat.reduceEqDiff, Nat.reduceBEq, Nat.reduceLeDiff, reduceCtorEq, ↓reduceIte]
            · refine ⟨fun hf => ?_, fun hf => ?_⟩
              · simp only [Bool.not_eq_true'] at hf
                rw [hf] at hinv
                simp only [Bool.false_eq_true, ↓reduceIte] at hinv
                rw [hinv]
                simp only [go_sem, Nat.reduceAdd, Nat.reduceEqDiff, Nat.reduceBEq, Nat.reduceLeDiff, reduceCtorEq, ↓reduceIte]
              · simp only [Bool.not_eq_false'] at hf
                rw [hf] at hinv
                simp only [↓reduceIte] at hinv
                refine ⟨a.fields.length - (k + 1), _, by omega, Wk.less ?_, k + 1, (smV a.fields[k].value d1 m').2, by omega, rfl, hinv, rfl⟩
                simp only [go_sem, wrap64s k (by omega), Nat.reduceAdd, Nat.reduceEqDiff, Nat.reduceBEq, Nat.reduceLeDiff, reduceCtorEq, ↓reduceIte]
        · have hd : decide ((k : Int) < (a.fields.length : Int)) = false := by simp; omega
          obtain rfl : k = a.fields.length := by omega
          rw [List.drop_length, smFs] at hinv
          simp only [go_sem, hd, hinv, List.length_map, Nat.reduceAdd, Nat.reduceEqDiff, Nat.reduceBEq, Nat.reduceLeDiff, reduceCtorEq, ↓reduceIte]

mutual
theorem walk85 : ∀ (a : Val), okV a → ∀ d n, Con Tryz.prog 85 [.d (encV a), .d (.int .i64 d), .ref 1000 0] [(1000, .box [.d (.int .i64 n)])] (.d (.bool (smV a d n).1)) [(1000, .box [.d (.int .i64 (smV a d n).2)])]
  | .mk k i s t l f, ha, d, n => by
    simp only [okV] at ha
    obtain ⟨a1, a2, a3, a4⟩ := ha
    exact step85 _ d n a1 a2 (fun x hx d n => walk85s l a3 x hx d n) (fun x hx d n => walk85f f a4 x hx d n)
theorem walk85s : ∀ (l : List Val), okVs l → ∀ x ∈ l, ∀ d n, Con Tryz.prog 85 [.d (encV x), .d (.int .i64 d), .ref 1000 0] [(1000, .box [.d (.int .i64 n)])] (.d (.bool (smV x d n).1)) [(1000, .box [.d (.int .i64 (smV x d n).2)])]
  | [], _, x, h, _, _ => by cases h
  | v :: r, ho, x, h, d, n => by
    simp only [okVs] at ho
    by_cases e : x = v
    · rw [e]; exact walk85 v ho.1 d n
    · exact walk85s r ho.2 x ((List.mem_cons.1 h).resolve_left e) d n
theorem walk85f : ∀ (l : List Fld), okFs l → ∀ x ∈ l, ∀ d n, Con Tryz.prog 85 [.d (encV x.value), .d (.int .i64 d), .ref 1000 0] [(1000, .box [.d (.int .i64 n)])] (.d (.bool (smV x.value d n).1)) [(1000, .box [.d (.int .i64 (smV x.value d n).2)])]
  | [], _, x, h, _, _ => by cases h
  | .mk n' v :: r, ho, x, h, d, n => by
    simp only [okFs, okF] at ho
    by_cases e : x = .mk n' v
    · rw [e]; exact walk85 v ho.1 d n
    · exact walk85f r ho.2 x ((List.mem_cons.1 h).resolve_left e) d n
end

def smallV (a : Val) : Bool := (smV a 12 300).1
theorem walk26 (a : Val) (ha : okV a) : PCon Tryz.prog 26 [encV a] (.d (.bool (smallV a))) := by
  refine ok26.pcon (Nat.le_of_ble_eq_true rfl) trivial ?_
  have hc := (walk85 a ha 12 300).cnt (ds := [encV a, .int .i64 12]) 3
  rw [encV_eq] at hc ⊢
  simp only [go_sem, ir26, Nat.reduceAdd, Nat.reduceEqDiff, Nat.reduceBEq, Nat.reduceLeDiff, reduceCtorEq, ↓reduceIte]
  refine wps_call rfl hc ⟨rfl, trivial⟩ ?_
  simp only [go_sem, Nat.reduceAdd, Nat.reduceEqDiff, Nat.reduceBEq, Nat.reduceLeDiff, reduceCtorEq, ↓reduceIte]
  rfl
end Go.Proofs
/- The tests of size: smallExpr, SmallExpr, Small. -/
set_option linter.unusedSimpArgs false
set_option maxRecDepth 10000
namespace Go.Proofs
open Go Av

mutual
def smE : Exp → Int → Int → Bool × Int
  | .mk _ _ t v a, d, n =>
    if decide (IntKind.i64.wrap (n - 1) < 0) || d == 0 || decide ((t.length : Int) > 2000) || decide ((v.length : Int) > 3) then (false, IntKind.i64.wrap (n - 1))
    else if v.all smallV then smEs a (IntKind.i64.wrap (d - 1)) (IntKind.i64.wrap (n - 1)) else (false, IntKind.i64.wrap (n - 1))
def smEs : List Exp → Int → Int → Bool × Int
  | [], _, n => (true, n)
  | v :: r, d, n => if (smE v d n).1 then smEs r d (smE v d n).2 else (false, (smE v d n).2)
end
theorem smE_eq (a : Exp) (d n : Int) : smE a d n = if decide (IntKind.i64.wrap (n - 1) < 0) || d == 0 || decide ((a.text.length : Int) > 2000) || decide ((a.value.length : Int) > 3) then (false, IntKind.i64.wrap (n - 1))
    else if a.value.all smallV then smEs a.args (IntKind.i64.wrap (d - 1)) (IntKind.i64.wrap (n - 1)) else (false, IntKind.i64.wrap (n - 1)) := by
  cases a; rw [smE]; rfl

theorem step150 (a : Exp) (d n : Int) (ha : a.value.length ≤ 68719476736) (ha2 : a.args.length ≤ 68719476736)
    (h1 : ∀ x ∈ a.value, PCon Tryz.prog 26 [encV x] (.d (.bool (smallV x))))
    (h2 : ∀ x ∈ a.args, ∀ d n, Con Tryz.prog 150 [.d (encE x), .d (.int .i64 d), .ref 1000 0] [(1000, .box [.d (.int .i64 n)])] (.d (.bool (smE x d n).1)) [(1000, .box [.d (.int .i64 (smE x d n).2)])]) :
    Con Tryz.prog 150 [.d (encE a), .d (.int .i64 d), .ref 1000 0] [(1000, .box [.d (.int .i64 n)])] (.d (.bool (smE a d n).1)) [(1000, .box [.d (.int .i64 (smE a d n).2)])] := by
  refine ok150.con (k := false) (Nat.le_of_ble_eq_true rfl) (closed_puts (by simp [puts, put, closedH, objIn, idsInL, idsIn])) trivial ?_
  rw [encE_eq]
  simp only [go_sem, ir150, Nat.reduceAdd, Nat.reduceEqDiff, Nat.reduceBEq, Nat.reduceLeDiff, reduceCtorEq, ↓reduceIte]
  refine scQ_pure (d == 0) (fun _ => ?_) ?_
  all_goals simp only [go_sem, Nat.reduceAdd, Nat.reduceEqDiff, Nat.reduceBEq, Nat.reduceLeDiff, reduceCtorEq, ↓reduceIte]
  refine scQ_pure (decide ((a.text.length : Int) > 2000)) (fun _ => ?_) ?_
  all_goals simp only [go_sem, Nat.reduceAdd, Nat.reduceEqDiff, Nat.reduceBEq, Nat.reduceLeDiff, reduceCtorEq, ↓reduceIte]
  refine scQ_pure (decide ((a.value.length : Int) > 3)) (fun _ => ?_) ?_
  all_goals simp only [go_sem, List.length_map, Nat.reduceAdd, Nat.reduceEqDiff, Nat.reduceBEq, Nat.reduceLeDiff, reduceCtorEq, ↓reduceIte]
  refine ⟨fun hb => ?_, fun hb => ?_⟩
  · simp only [smE_eq a d n, hb, and_self, ↓reduceIte]
  rw [smE_eq a d n, hb]
  simp only [Bool.false_eq_true, ↓reduceIte]
  generalize hw : IntKind.i64.wrap (n - 1) = w
  generalize hd1 : IntKind.i64.wrap (d - 1) = d1
  refine wpc_loop (fun r s => ∃ (k : Nat), k ≤ a.value.length ∧ r = a.value.length - k ∧ a.value.all smallV = (a.value.drop k).all smallV ∧
    s = ⟨[(1, .d (.int .i64 d)), (2, .ref 1000 0), (3, .ref 3 0), (7, .d (.int .i64 k))],
      [(1000, .box [.d (.int .i64 w)]), (3, .box [.d (.int .i64 a.op), .d (.int .i64 a.int), .d (.str a.text), .d (.list 6 (a.value.map encV)), .d (.list 5 (a.args.map encE))])]⟩) ?_ ?_
  · exact ⟨_, _, Wk.refl _, 0, Nat.zero_le _, rfl, rfl, rfl⟩
  · rintro r s ⟨k, hk, rfl, hinv, rfl⟩
    by_cases hlt : k < a.value.length
    · have hx := nth_encV hlt
      have hd : decide ((k : Int) < (a.value.length : Int)) = true := by simp; omega
      simp only [go_sem, hx, hd, hd1, Int.toNat_natCast, List.length_map, Nat.reduceAdd, Nat.reduceEqDiff, Nat.reduceBEq, Nat.reduceLeDiff, reduceCtorEq, ↓reduceIte]
      have hc := (h1 a.value[k] (List.getElem_mem _)).call trivial
      rw [encV_eq] at hc
      refine ⟨by omega, wps_call rfl hc trivial ?_⟩
      simp only [go_sem, Nat.reduceAdd, Nat.reduceEqDiff, Nat.reduceBEq, Nat.reduceLeDiff, reduceCtorEq, ↓reduceIte]
      rw [List.drop_eq_getElem_cons hlt, List.all_cons] at hinv
      refine ⟨fun hf => ?_, fun hf => ?_⟩
      · simp only [Bool.not_eq_true'] at hf
        rw [hf, Bool.false_and] at hinv
        simp only [go_sem, hinv, Nat.reduceAdd, Nat.reduceEqDiff, Nat.reduceBEq, Nat.reduceLeDiff, reduceCtorEq, ↓reduceIte]
      · simp only [Bool.not_eq_false'] at hf
        rw [hf, Bool.true_and] at hinv
        refine ⟨a.value.length - (k + 1), _, by omega, Wk.less ?_, k + 1, by omega, rfl, hinv, rfl⟩
        simp only [go_sem, wrap64s k (by omega), Nat.reduceAdd, Nat.reduceEqDiff, Nat.reduceBEq, Nat.reduceLeDiff, reduceCtorEq, ↓reduceIte]
    · have hd : decide ((k : Int) < (a.value.length : Int)) = false := by simp; omega
      obtain rfl : k = a.value.length := by omega
      rw [List.drop_length, List.all_nil] at hinv
      simp only [go_sem, hd, hinv, List.length_map, Nat.reduceAdd, Nat.reduceEqDiff, Nat.reduceBEq, Nat.reduceLeDiff, reduceCtorEq, ↓reduceIte]
      refine wpc_loop (fun r s => ∃ (k : Nat) (m' : Int), k ≤ a.args.length ∧ r = a.args.length - k ∧ smEs a.args d1 w = smEs (a.args.drop k) d1 m' ∧
        s = ⟨[(1, .d (.int .i64 d)), (2, .ref 1000 0), (3, .ref 3 0), (8, .d (.int .i64 k))],
          [(1000, .box [.d (.int .i64 m')]), (3, .box [.d (.int .i64 a.op), .d (.int .i64 a.int), .d (.str a.text), .d (.list 6 (a.value.map encV)), .d (.list 5 (a.args.map encE))])]⟩) ?_ ?_
      · exact ⟨_, _, Wk.refl _, 0, w, Nat.zero_le _, rfl, rfl, rfl⟩
      · clear hinv
        rintro r s ⟨k, m', hk, rfl, hinv, rfl⟩
        by_cases hlt : k < a.args.length
        · have hx := nth_encE hlt
          have hd : decide ((k : Int) < (a.args.length : Int)) = true := by simp; omega
          have hc := (h2 a.args[k] (List.getElem_mem _) d1 m').cnt (ds := [encE a.args[k], .int .i64 d1]) 1000
          rw [encE_eq] at hc
          rw [List.drop_eq_getElem_cons hlt, smEs] at hinv
          simp only [go_sem, hx, hd, hd1, Int.toNat_natCast, List.length_map, Nat.reduceAdd, Nat.reduceEqDiff, Nat.reduceBEq, Nat.reduceLeDiff, reduceCtorEq, ↓reduceIte]
          refine ⟨by omega, wps_call rfl hc ⟨rfl, trivial⟩ ?_⟩
          simp only [go_sem, Nat.reduceAdd, Nat.reduceEqDiff, Nat.reduceBEq, Nat.reduceLeDiff, reduceCtorEq, ↓reduceIte]
          refine ⟨fun hf => ?_, fun hf => ?_⟩
          · simp only [Bool.not_eq_true'] at hf
            rw [hf] at hinv
            simp only [Bool.false_eq_true, ↓reduceIte] at hinv
            rw [hinv]
            simp only [go_sem, Nat.reduceAdd, Nat.reduceEqDiff, Nat.reduceBEq, Nat.reduceLeDiff, reduceCtorEq, ↓reduceIte]
          · simp only [Bool.not_eq_false'] at hf
            rw [hf] at hinv
            simp only [↓reduceIte] at hinv
            refine ⟨a.args.length - (k + 1), _, by omega, Wk.less ?_, k + 1, (smE a.args[k] d1 m').2, by omega, rfl, hinv, rfl⟩
            simp only [go_sem, wrap64s k (by omega), Nat.reduceAdd, Nat.reduceEqDiff, Nat.reduceBEq, Nat.reduceLeDiff, reduceCtorEq, ↓reduceIte]
        · have hd : decide ((k : Int) < (a.args.length : Int)) = false := by simp; omega
          obtain rfl : k = a.args.length := by omega
          rw [List.drop_length, smEs] at hinv
          simp only [go_sem, hd, hinv, List.length_map, Nat.reduceAdd, Nat.reduceEqDiff, Nat.reduceBEq, Nat.reduceLeDiff, reduceCtorEq, ↓reduceIte]

mutual
theorem walk150 : ∀ (a : Exp), okE a → ∀ d n, Con Tryz.prog 150 [.d (encE a), .d (.int .i64 d), .ref 1000 0] [(1000, .box [.d (.int .i64 n)])] (.d (.bool (smE a d n).1)) [(1000, .box [.d (.int .i64 (smE a d n).2)])]
  | .mk o i t v l, ha, d, n => by
    simp only [okE] at ha
    obtain ⟨a1, a2, a3, a4⟩ := ha
    exact step150 _ d n a1 a2 (fun x hx => walk26 x (okVs_mem a3 x hx)) (fun x hx d n => walk150s l a4 x hx d n)
theorem walk150s : ∀ (l : List Exp), okEs l → ∀ x ∈ l, ∀ d n, Con Tryz.prog 150 [.d (encE x), .d (.int .i64 d), .ref 1000 0] [(1000, .box [.d (.int .i64 n)])] (.d (.bool (smE x d n).1)) [(1000, .box [.d (.int .i64 (smE x d n).2)])]
  | [], _, x, h, _, _ => by cases h
  | v :: r, ho, x, h, d, n => by
    simp only [okEs] at ho
    by_cases e : x = v
    · rw [e]; exact walk150 v ho.1 d n
    · exact walk150s r ho.2 x ((List.mem_cons.1 h).resolve_left e) d n
end

def smallE (a : Exp) : Bool := (smE a 12 150).1
theorem walk77 (a : Exp) (ha : okE a) : PCon Tryz.prog 77 [encE a] (.d (.bool (smallE a))) := by
  refine ok77.pcon (Nat.le_of_ble_eq_true rfl) trivial ?_
  have hc := (walk150 a ha 12 150).cnt (ds := [encE a, .int .i64 12]) 3
  rw [encE_eq] at hc ⊢
  simp only [go_sem, ir77, Nat.reduceAdd, Nat.reduceEqDiff, Nat.reduceBEq, Nat.reduceLeDiff, reduceCtorEq, ↓reduceIte]
  refine wps_call rfl hc ⟨rfl, trivial⟩ ?_
  simp only [go_sem, Nat.reduceAdd, Nat.reduceEqDiff, Nat.reduceBEq, Nat.reduceLeDiff, reduceCtorEq, ↓reduceIte]
  rfl

def smallR (r : Rule) : Bool := !(decide ((r.target.length : Int) > 300) || !smallE r.expr)
def smallM (m : List Rule) : Bool := !decide ((m.length : Int) > 12) && m.all smallR

theorem walk23 (m : List Rule) (hm : okM m) : PCon Tryz.prog 23 [encM m] (.d (.bool (smallM m))) := by
  refine ok23.pcon (Nat.le_of_ble_eq_true rfl) trivial ?_
  have hml := hm.1
  simp only [go_sem, ir23, encM, List.length_map, Nat.reduceAdd, Nat.reduceEqDiff, Nat.reduceBEq, Nat.reduceLeDiff, reduceCtorEq, ↓reduceIte]
  refine ⟨fun hb => ?_, fun hb => ?_⟩
  · simp only [smallM, hb, Bool.not_true, Bool.false_and]
  · rw [smallM, hb, Bool.not_false, Bool.true_and]
    refine wpc_loop (fun r s => ∃ (k : Nat), k ≤ m.length ∧ r = m.length - k ∧ m.all smallR = (m.drop k).all smallR ∧
      s = ⟨[(1, .ref 1 0), (3, .d (.int .i64 k))], [(1, .box [.d (.list 6 (m.map encR))])]⟩) ?_ ?_
    · exact ⟨_, _, Wk.refl _, 0, Nat.zero_le _, rfl, rfl, rfl⟩
    · rintro r s ⟨k, hk, rfl, hinv, rfl⟩
      by_cases hlt : k < m.length
      · have hx := nth_encR hlt
        have hd : decide ((k : Int) < (m.length : Int)) = true := by simp; omega
        have hc := (walk77 m[k].expr (hm.2 _ (List.getElem_mem _))).call trivial
        rw [encE_eq] at hc
        rw [List.drop_eq_getElem_cons hlt, List.all_cons, smallR] at hinv
        simp only [go_sem, hx, hd, Int.toNat_natCast, List.length_map, Nat.reduceAdd, Nat.reduceEqDiff, Nat.reduceBEq, Nat.reduceLeDiff, reduceCtorEq, ↓reduceIte]
        refine ⟨by omega, by decide, scQ_pure (!smallE m[k].expr) (fun _ => ?_) ?_⟩
        all_goals simp only [go_sem, hx, Int.toNat_natCast, List.length_map, Nat.reduceAdd, Nat.reduceEqDiff, Nat.reduceBEq, Nat.reduceLeDiff, reduceCtorEq, ↓reduceIte]
        · refine ⟨by omega, wps_call rfl hc trivial ?_⟩
          simp only [go_sem, Nat.reduceAdd, Nat.reduceEqDiff, Nat.reduceBEq, Nat.reduceLeDiff, reduceCtorEq, ↓reduceIte]
        · refine ⟨fun hf => ?_, fun hf => ?_⟩
          · rw [hf, Bool.not_true, Bool.false_and] at hinv
            simp only [go_sem, hinv, Nat.reduceAdd, Nat.reduceEqDiff, Nat.reduceBEq, Nat.reduceLeDiff, reduceCtorEq, ↓reduceIte]
          · rw [hf, Bool.not_false, Bool.true_and] at hinv
            refine ⟨m.length - (k + 1), _, by omega, Wk.less ?_, k + 1, by omega, rfl, hinv, rfl⟩
            simp only [go_sem, wrap64s k (by omega), Nat.reduceAdd, Nat.reduceEqDiff, Nat.reduceBEq, Nat.reduceLeDiff, reduceCtorEq, ↓reduceIte]
      · have hd : decide ((k : Int) < (m.length : Int)) = false := by simp; omega
        obtain rfl : k = m.length := by omega
        rw [List.drop_length, List.all_nil] at hinv
        simp only [go_sem, hd, hinv, List.length_map, Nat.reduceAdd, Nat.reduceEqDiff, Nat.reduceBEq, Nat.reduceLeDiff, reduceCtorEq, ↓reduceIte]
end Go.Proofs
/- mapping.Clone: its result is a growing row of the caller's. -/
set_option linter.unusedSimpArgs false
set_option maxRecDepth 10000
namespace Go.Proofs
open Go Av

theorem con32 (m : List Rule) (hm : okM m) : Con Tryz.prog 32 [.d (encM m)] [] (.agg [.ms 9 m.length]) [(9, .row m.length 6 (m.map encR))] := by
  have hml := hm.1
  refine ok32.con (k := true) (Nat.le_of_ble_eq_true rfl) (closed_puts (by simp [puts, put, closedH, objIn, idsInL, idsIn])) (by simp [hputs, upd, inT, idsIn, idsInL]) ?_
  simp only [go_sem, ir32, encM, List.length_map, Nat.reduceAdd, Nat.reduceEqDiff, Nat.reduceBEq, Nat.reduceLeDiff, reduceCtorEq, ↓reduceIte]
  refine ⟨by omega, wpc_loop (fun n s => ∃ k : Nat, k ≤ m.length ∧ n = m.length - k ∧
    s = ⟨[(2, .ref 2 0), (3, .ms 9 k), (11, .d (.list 6 (m.map encR))), (12, .d (.int .i64 m.length)), (13, .d (.int .i64 k))],
      [(2, .box [.d (.nil 6)]), (9, .row k 6 ((m.take k).map encR))]⟩) ?_ ?_⟩
  · refine ⟨_, _, Wk.less ?_, 0, Nat.zero_le _, rfl, rfl⟩
    simp [go_sem]
  · rintro n s ⟨k, hk, rfl, rfl⟩
    by_cases hlt : k < m.length
    · have hx := nth_encR hlt
      have hd : decide ((k : Int) < (m.length : Int)) = true := by simp; omega
      have hc := (walk94 m[k].expr (hm.2 _ (List.getElem_mem _))).call trivial
      rw [encE_eq] at hc
      simp only [go_sem, hx, hd, Int.toNat_natCast, List.length_map, Nat.reduceAdd, Nat.reduceEqDiff, Nat.reduceBEq, Nat.reduceLeDiff, reduceCtorEq, ↓reduceIte]
      refine ⟨by omega, wpsL_call rfl hc trivial ?_⟩
      simp only [go_sem, Nat.reduceAdd, Nat.reduceEqDiff, Nat.reduceBEq, Nat.reduceLeDiff, reduceCtorEq, ↓reduceIte]
      refine ⟨by simp, by simp; omega, rfl, m.length - (k + 1), _, by omega, Wk.less ?_, k + 1, by omega, rfl, rfl⟩
      rw [List.take_succ_eq_append_getElem hlt, List.map_append]
      simp only [go_sem, wrap64s k (by omega), List.map_cons, List.map_nil, encR, Nat.reduceAdd, Nat.reduceEqDiff, Nat.reduceBEq, Nat.reduceLeDiff, reduceCtorEq, ↓reduceIte]
    · have hd : decide ((k : Int) < (m.length : Int)) = false := by simp; omega
      obtain rfl : k = m.length := by omega
      simp only [go_sem, hd, List.take_length, List.length_map, Nat.reduceAdd, Nat.reduceEqDiff, Nat.reduceBEq, Nat.reduceLeDiff, reduceCtorEq, ↓reduceIte]

theorem walk32 (m : List Rule) (hm : okM m) (i : Nat) : CallOK Tryz.prog 32 [.d (encM m)] [(i, none)] (.agg [.ms i m.length]) [(i, .row m.length 6 (m.map encR))] := by
  have := (con32 m hm).call (fun _ => i) (by intro j h; cases h) ?_ ?_ (by intro j o h; cases h) [9] ?_ ?_ ?_
  · simp only [Av.ren, Obj.ren, renL, List.map_cons, List.map_nil, List.nil_append] at this
    exact this
  · intro a b ha hb _
    have h9 : ∀ j, (hputs (get []) [(9, Obj.row m.length 6 (m.map encR))] j).isSome = true → j = 9 := by
      intro j h
      simp only [hputs, upd] at h
      split at h
      · assumption
      · cases h
    rw [h9 a ha, h9 b hb]
  · intro c hc
    simp only [List.mem_singleton] at hc
    subst hc
    trivial
  · intro e he
    simp only [List.mem_singleton] at he
    subst he
    exact .inr (by simp)
  · exact closed_puts (by simp [puts, put, closedH, objIn, idsInL, idsIn])
  · simp [hputs, upd, inT, idsIn, idsInL]
end Go.Proofs
/- MappingEquals. -/
set_option linter.unusedSimpArgs false
set_option maxRecDepth 10000
namespace Go.Proofs
open Go Av

def addx (r : Rule) : Rule := ⟨r.target ++ [120], r.expr⟩
def mutTo (m : List Rule) (k : Nat) : List Rule := (m.take k).map addx ++ m.drop k
theorem mutTo_length {m : List Rule} {k : Nat} (h : k ≤ m.length) : (mutTo m k).length = m.length := by simp [mutTo]; omega
theorem mutTo_nth {m : List Rule} {k : Nat} (h : k < m.length) : nth ((mutTo m k).map encR) k = encR m[k] := by
  have h' : k < (mutTo m k).length := by rw [mutTo_length (by omega)]; exact h
  rw [nth_eq (by simpa using h'), List.getElem_map]
  congr 1
  simp only [mutTo]
  rw [List.getElem_append_right (by simp; omega)]
  simp [Nat.min_eq_left (Nat.le_of_lt h)]
theorem mutTo_set {m : List Rule} {k : Nat} (h : k < m.length) : ((mutTo m k).map encR).set k (encR (addx m[k])) = (mutTo m (k + 1)).map encR := by
  rw [← List.map_set]
  congr 1
  simp only [mutTo]
  rw [List.set_append_right _ _ (by simp; omega), List.take_succ_eq_append_getElem h, List.map_append, List.append_assoc]
  rw [List.drop_eq_getElem_cons h]
  simp only [List.length_map, List.length_take, Nat.min_eq_left (Nat.le_of_lt h), Nat.sub_self, List.set_cons_zero, List.map_cons, List.map_nil, List.singleton_append]
theorem smallM_target {m : List Rule} (h : smallM m = true) {k : Nat} (hk : k < m.length) : m[k].target.length ≤ 300 := by
  simp only [smallM, Bool.and_eq_true, List.all_eq_true] at h
  have := h.2 m[k] (List.getElem_mem _)
  simp only [smallR, Bool.not_eq_true', Bool.or_eq_false_iff, decide_eq_false_iff_not] at this
  omega
theorem okM_addx {m : List Rule} (h : okM m) : okM (m.map addx) := by
  refine ⟨by simpa using h.1, ?_⟩
  intro r hr
  obtain ⟨x, hx, rfl⟩ := List.mem_map.1 hr
  exact h.2 x hx
theorem eqM_addx {m : List Rule} (h : m ≠ []) : eqM (m.map addx) m = false := by
  rw [← Bool.not_eq_true, eqM_iff]
  cases m with
  | nil => exact absurd rfl h
  | cons r l =>
    intro e
    have := congrArg (fun l : List Rule => (l.head?.map fun r => r.target.length)) e
    simp [addx] at this

theorem walk7 (m o : List Rule) (hm : okM m) (ho : okM o) (h22 : PCon Tryz.prog 22 [] (.d (.bool true))) : PCon Tryz.prog 7 [encM m, encM o] (.d (.bool true)) := by
  have hml := hm.1
  have hol := ho.1
  have c22 := h22.call trivial
  have c23m := (walk23 m hm).call trivial
  have c23o := (walk23 o ho).call trivial
  refine ok7.pcon (Nat.le_of_ble_eq_true rfl) trivial ?_
  simp only [encM] at c23m c23o
  simp only [go_sem, ir7, encM, List.length_map, Nat.reduceAdd, Nat.reduceEqDiff, Nat.reduceBEq, Nat.reduceLeDiff, reduceCtorEq, ↓reduceIte]
  refine wps_call rfl c22 trivial ?_
  simp only [go_sem, Nat.reduceAdd, Nat.reduceEqDiff, Nat.reduceBEq, Nat.reduceLeDiff, reduceCtorEq, ↓reduceIte]
  refine scQ_pure (!smallM m) (fun _ => ?_) ?_
  all_goals simp only [go_sem, Bool.not_true, Nat.reduceAdd, Nat.reduceEqDiff, Nat.reduceBEq, Nat.reduceLeDiff, reduceCtorEq, ↓reduceIte]
  · refine wps_call rfl c23m trivial ?_
    simp only [go_sem, Nat.reduceAdd, Nat.reduceEqDiff, Nat.reduceBEq, Nat.reduceLeDiff, reduceCtorEq, ↓reduceIte]
  refine scQ_pure (!smallM o) (fun _ => ?_) ?_
  all_goals simp only [go_sem, Nat.reduceAdd, Nat.reduceEqDiff, Nat.reduceBEq, Nat.reduceLeDiff, reduceCtorEq, ↓reduceIte]
  · refine wps_call rfl c23o trivial ?_
    simp only [go_sem, Nat.reduceAdd, Nat.reduceEqDiff, Nat.reduceBEq, Nat.reduceLeDiff, reduceCtorEq, ↓reduceIte]
  refine ⟨fun hb => ?_, fun hb => ?_⟩
  · refine wps_call rfl c22 trivial ?_
    simp only [go_sem, Nat.reduceAdd, Nat.reduceEqDiff, Nat.reduceBEq, Nat.reduceLeDiff, reduceCtorEq, ↓reduceIte]
  have hs : smallM m = true := by
    cases h : smallM m
    · rw [h] at hb; cases hb
    · rfl
  refine wpc_loop (fun r s => ∃ (k : Nat) (e : Bool), k ≤ m.length ∧ r = m.length - k ∧ (e = true → o.length = m.length ∧ ∀ (j : Nat) (h1 : j < m.length) (h2 : j < o.length), j < k → eqR m[j] o[j] = true) ∧ (e = false → eqM m o = false) ∧
    s = ⟨[(2, .ref 2 0), (3, .ref 3 0), (5, .d (.bool e)), (6, .d (.int .i64 k))], [(2, .box [.d (.list 6 (m.map encR))]), (3, .box [.d (.list 6 (o.map encR))])]⟩) ?_ ?_
  · refine ⟨_, _, Wk.refl _, 0, (m.length : Int) == (o.length : Int), Nat.zero_le _, rfl, ?_, ?_, by simp⟩
    · intro h
      refine ⟨by simp at h; omega, fun j _ _ hj => by omega⟩
    · intro h
      have : ¬ m.length = o.length := by simp only [beq_eq_false_iff_ne, ne_eq] at h; omega
      simp [eqM, eqF, this]
  rintro r s ⟨k, e, hk, rfl, h1, h2, rfl⟩
  simp only [go_sem, List.length_map, Nat.reduceAdd, Nat.reduceEqDiff, Nat.reduceBEq, Nat.reduceLeDiff, reduceCtorEq, ↓reduceIte]
  refine scQ_pure e (fun _ => ?_) ?_
  all_goals simp only [go_sem, Nat.reduceAdd, Nat.reduceEqDiff, Nat.reduceBEq, Nat.reduceLeDiff, reduceCtorEq, ↓reduceIte]
  refine ⟨fun ht => ?_, fun hf => ?_⟩
  · simp only [Bool.and_eq_true, decide_eq_true_eq] at ht
    obtain ⟨ht, rfl⟩ := ht
    have hlt : k < m.length := by omega
    obtain ⟨hlen, h1⟩ := h1 rfl
    have hlto : k < o.length := by omega
    have hx := nth_encR hlt
    have hy := nth_encR hlto
    have hc := (walk31 m[k].expr (hm.2 _ (List.getElem_mem _)) o[k].expr (ho.2 _ (List.getElem_mem _))).call trivial
    rw [encE_eq, encE_eq] at hc
    simp only [go_sem, hx, hy, List.length_map, Int.toNat_natCast, Nat.reduceAdd, Nat.reduceEqDiff, Nat.reduceBEq, Nat.reduceLeDiff, reduceCtorEq, ↓reduceIte]
    refine ⟨by omega, by decide, by omega, by decide, scQ_pure (eqE m[k].expr o[k].expr) (fun _ => ?_) ?_⟩
    all_goals simp only [go_sem, hx, hy, List.length_map, Int.toNat_natCast, Nat.reduceAdd, Nat.reduceEqDiff, Nat.reduceBEq, Nat.reduceLeDiff, reduceCtorEq, ↓reduceIte]
    · refine ⟨by omega, by omega, wps_call rfl hc trivial ?_⟩
      simp only [go_sem, Nat.reduceAdd, Nat.reduceEqDiff, Nat.reduceBEq, Nat.reduceLeDiff, reduceCtorEq, ↓reduceIte]
    · refine ⟨m.length - (k + 1), _, by omega, Wk.less ?_, k + 1, eqR m[k] o[k], by omega, rfl, fun he => ⟨hlen, fun j a b hj => ?_⟩, fun he => ?_, rfl⟩
      · simp only [go_sem, eqR, wrap64s k (by omega), Nat.reduceAdd, Nat.reduceEqDiff, Nat.reduceBEq, Nat.reduceLeDiff, reduceCtorEq, ↓reduceIte]
      · by_cases e : j = k
        · subst e; exact he
        · exact h1 j a b (by omega)
      · rw [← Bool.not_eq_true, eqM, eqF_iff hlen.symm]
        intro h
        rw [h k hlt hlto] at he
        cases he
  · have he : eqM m o = e := by
      cases e with
      | false => exact h2 rfl
      | true =>
        obtain ⟨hlen, h1⟩ := h1 rfl
        have hk : k = m.length := by simp only [Bool.and_true, decide_eq_false_iff_not] at hf; omega
        subst hk
        exact (eqF_iff hlen.symm).2 fun j a b => h1 j a b a
    have h33 := (walk33 m o hm ho).call trivial
    have h33' := (walk33 o m ho hm).call trivial
    have hmm := walk33 m m hm hm
    rw [he] at h33
    rw [eqM_symm, he] at h33'
    rw [eqM_self] at hmm
    simp only [encM] at h33 h33' hmm
    refine wps_call rfl (walk32 m hm 900) ⟨rfl, trivial⟩ ?_
    simp only [go_sem, Nat.reduceAdd, Nat.reduceEqDiff, Nat.reduceBEq, Nat.reduceLeDiff, reduceCtorEq, ↓reduceIte]
    refine wps_call rfl h33 trivial ?_
    simp only [go_sem, bne_self_eq_false, Bool.not_true, Nat.reduceAdd, Nat.reduceEqDiff, Nat.reduceBEq, Nat.reduceLeDiff, reduceCtorEq, ↓reduceIte]
    refine wps_call rfl h33' trivial ?_
    simp only [go_sem, bne_self_eq_false, Bool.not_true, Nat.reduceAdd, Nat.reduceEqDiff, Nat.reduceBEq, Nat.reduceLeDiff, reduceCtorEq, ↓reduceIte]
    refine wps_borrow rfl rfl ?_ (by simp only [go_sem]; exact hmm) rfl ?_
    · simp only [go_sem, Nat.reduceAdd, Nat.reduceEqDiff, Nat.reduceBEq, Nat.reduceLeDiff, reduceCtorEq, ↓reduceIte]
    simp only [go_sem, Bool.not_true, Nat.reduceAdd, Nat.reduceEqDiff, Nat.reduceBEq, Nat.reduceLeDiff, reduceCtorEq, ↓reduceIte]
    refine wpc_loop (fun r s => ∃ (k : Nat), k ≤ m.length ∧ r = m.length - k ∧
      s = ⟨[(2, .ref 2 0), (7, .ref 7 0), (8, .d (.int .i64 k))], [(2, .box [.d (.list 6 (m.map encR))]), (7, .box [.ms 900 m.length]), (900, .row m.length 6 ((mutTo m k).map encR))]⟩) ?_ ?_
    · refine ⟨_, _, Wk.less ?_, 0, Nat.zero_le _, rfl, rfl⟩
      simp only [mutTo, Int.natCast_zero, go_sem, Nat.reduceAdd, Nat.reduceEqDiff, Nat.reduceBEq, Nat.reduceLeDiff, reduceCtorEq, ↓reduceIte]
    rintro r s ⟨k, hk, rfl, rfl⟩
    have hlen := mutTo_length hk
    simp only [go_sem, List.length_map, hlen, Nat.reduceAdd, Nat.reduceEqDiff, Nat.reduceBEq, Nat.reduceLeDiff, reduceCtorEq, ↓reduceIte]
    refine ⟨fun ht => ?_, fun hf => ?_⟩
    · simp only [decide_eq_true_eq] at ht
      have hlt : k < m.length := by omega
      have hx := mutTo_nth hlt
      have hset := mutTo_set hlt
      rw [encR] at hx
      simp only [addx] at hset
      simp only [go_sem, hx, List.length_map, hlen, Int.toNat_natCast, putEl, Nat.reduceAdd, Nat.reduceEqDiff, Nat.reduceBEq, Nat.reduceLeDiff, reduceCtorEq, ↓reduceIte]
      have htl := smallM_target hs hlt
      refine ⟨by omega, by decide, by simp; omega, by omega, m.length - (k + 1), _, by omega, Wk.less ?_, k + 1, by omega, rfl, rfl⟩
      rw [← hset, encR]
      simp only [go_sem, wrap64s k (by omega), ne_eq, decide_not, Nat.reduceEqDiff, decide_false, Bool.not_false, Nat.reduceAdd, Nat.reduceEqDiff, Nat.reduceBEq, Nat.reduceLeDiff, reduceCtorEq, ↓reduceIte]
    · simp only [decide_eq_false_iff_not] at hf
      obtain rfl : k = m.length := by omega
      have hmt : mutTo m m.length = m.map addx := by simp [mutTo]
      rw [hmt]
      have hmt' := walk33 (m.map addx) m (okM_addx hm) hm
      simp only [encM] at hmt'
      refine scQ_pure (!eqM (m.map addx) m) (fun _ => ?_) ?_
      all_goals simp only [go_sem, Nat.reduceAdd, Nat.reduceEqDiff, Nat.reduceBEq, Nat.reduceLeDiff, reduceCtorEq, ↓reduceIte]
      · refine wps_borrow rfl rfl ?_ (by simp only [go_sem]; exact hmt') rfl ?_
        · simp only [go_sem, Nat.reduceAdd, Nat.reduceEqDiff, Nat.reduceBEq, Nat.reduceLeDiff, reduceCtorEq, ↓reduceIte]
        · simp only [go_sem, Nat.reduceAdd, Nat.reduceEqDiff, Nat.reduceBEq, Nat.reduceLeDiff, reduceCtorEq, ↓reduceIte]
      · by_cases hnil : m = []
        · subst hnil; rfl
        · simp [eqM_addx hnil]
end Go.Proofs
