/- value.Clone. -/
import Derived.Test.YtholoaojlcnacaaGreatDoorWalkA
set_option linter.unusedVariables false
set_option linter.unusedSimpArgs false
set_option linter.unusedSectionVars false
set_option linter.unusedSimpArgs false
set_option maxRecDepth 10000
namespace Go.Proofs
open Go Av
theorem step55 (a : Val) (ha : a.list.length ≤ 68719476736) (ha2 : a.fields.length ≤ 68719476736) (h1 : ∀ x ∈ a.list, CallOK Tryz.prog 55 [.d (encV x)] [] (.d (encV x)) []) (h2 : ∀ x ∈ a.fields, CallOK Tryz.prog 55 [.d (encV x.value)] [] (.d (encV x.value)) []) :
    PCon Tryz.prog 55 [encV a] (.d (encV a)) := by
  refine ok55.pcon (Nat.le_of_ble_eq_true rfl) trivial ?_
  rw [encV_eq]
  simp only [go_sem, ir55, Nat.reduceAdd, Nat.reduceEqDiff, Nat.reduceBEq, Nat.reduceLeDiff, reduceCtorEq, ↓reduceIte]
  refine wpc_loop (fun n s => ∃ k : Nat, k ≤ a.list.length ∧ n = a.list.length - k ∧
    s = ⟨[(1, .ref 1 0), (2, .ref 2 0), (3, .ref 3 0), (12, .d (.list 6 (a.list.map encV))), (13, .d (.int .i64 a.list.length)), (14, .d (.int .i64 k))],
      [(1, .box [.d (.int .i64 a.kind), .d (.int .i64 a.int), .d (.int .i64 a.scale), .d (.str a.text), .d (.list 6 (a.list.map encV)), .d (.list 7 (a.fields.map encF))]),
       (2, .box [.d (.int .i64 0), .d (.int .i64 0), .d (.int .i64 0), .d (.str []), .d (.nil 6), .d (.nil 7)]),
       (3, .box [.d (.int .i64 a.kind), .d (.int .i64 a.int), .d (.int .i64 a.scale), .d (.str a.text), .ms 23 k, .d (.nil 7)]),
       (23, .row k 6 ((a.list.take k).map encV))]⟩) ?_ ?_
  · refine ⟨_, _, Wk.nilB 3 4 23 6 _ rfl rfl rfl (by decide), 0, Nat.zero_le _, rfl, ?_⟩
    simp [put]
  · rintro n s ⟨k, hk, rfl, rfl⟩
    by_cases hlt : k < a.list.length
    · have hx := nth_encV hlt
      have hd : decide ((k : Int) < (a.list.length : Int)) = true := by simp; omega
      simp only [go_sem, hx, hd, Int.toNat_natCast, Nat.reduceAdd, Nat.reduceEqDiff, Nat.reduceBEq, Nat.reduceLeDiff, reduceCtorEq, ↓reduceIte]
      have hc := h1 a.list[k] (List.getElem_mem _)
      rw [encV_eq] at hc
      refine ⟨by simp; omega, wpsL_call rfl hc trivial ?_⟩
      simp only [go_sem, Nat.reduceAdd, Nat.reduceEqDiff, Nat.reduceBEq, Nat.reduceLeDiff, reduceCtorEq, ↓reduceIte]
      refine ⟨by simp, by simp; omega, rfl, a.list.length - (k + 1), _, by omega, Wk.less ?_, k + 1, by omega, rfl, rfl⟩
      rw [List.take_succ_eq_append_getElem hlt, List.map_append]
      simp only [go_sem, wrap64s k (by omega), List.map_cons, List.map_nil, encV_eq a.list[k], Nat.reduceAdd, Nat.reduceEqDiff, Nat.reduceBEq, Nat.reduceLeDiff, reduceCtorEq, ↓reduceIte]
    · have hd : decide ((k : Int) < (a.list.length : Int)) = false := by simp; omega
      obtain rfl : k = a.list.length := by omega
      simp only [go_sem, hd, List.take_length, Nat.reduceAdd, Nat.reduceEqDiff, Nat.reduceBEq, Nat.reduceLeDiff, reduceCtorEq, ↓reduceIte]
      refine wpc_loop (fun n s => ∃ k : Nat, k ≤ a.fields.length ∧ n = a.fields.length - k ∧
        s = ⟨[(2, .ref 2 0), (3, .ref 3 0), (27, .d (.list 7 (a.fields.map encF))), (28, .d (.int .i64 a.fields.length)), (29, .d (.int .i64 k))],
          [(2, .box [.d (.int .i64 0), .d (.int .i64 0), .d (.int .i64 0), .d (.str []), .d (.nil 6), .d (.nil 7)]),
           (3, .box [.d (.int .i64 a.kind), .d (.int .i64 a.int), .d (.int .i64 a.scale), .d (.str a.text), .ms 23 a.list.length, .ms 42 k]),
           (23, .row a.list.length 6 (a.list.map encV)),
           (42, .row k 7 ((a.fields.take k).map encF))]⟩) ?_ ?_
      · refine ⟨_, _, (Wk.nilB 3 5 42 7 _ rfl rfl rfl (by decide)).trans (Wk.less ?_), 0, Nat.zero_le _, rfl, rfl⟩
        simp [put, go_sem]
      · rintro n s ⟨k, hk, rfl, rfl⟩
        by_cases hlt : k < a.fields.length
        · have hx := nth_encF hlt
          have hd : decide ((k : Int) < (a.fields.length : Int)) = true := by simp; omega
          have hc := h2 a.fields[k] (List.getElem_mem _)
          rw [encV_eq] at hc
          simp only [go_sem, hx, hd, Int.toNat_natCast, Nat.reduceAdd, Nat.reduceEqDiff, Nat.reduceBEq, Nat.reduceLeDiff, reduceCtorEq, ↓reduceIte]
          refine ⟨by simp; omega, wpsL_call rfl hc trivial ?_⟩
          simp only [go_sem, Nat.reduceAdd, Nat.reduceEqDiff, Nat.reduceBEq, Nat.reduceLeDiff, reduceCtorEq, ↓reduceIte]
          refine ⟨by simp, by simp; omega, rfl, a.fields.length - (k + 1), _, by omega, Wk.less ?_, k + 1, by omega, rfl, rfl⟩
          rw [List.take_succ_eq_append_getElem hlt, List.map_append]
          simp only [go_sem, wrap64s k (by omega), List.map_cons, List.map_nil, encF_eq a.fields[k], Nat.reduceAdd, Nat.reduceEqDiff, Nat.reduceBEq, Nat.reduceLeDiff, reduceCtorEq, ↓reduceIte]
        · have hd : decide ((k : Int) < (a.fields.length : Int)) = false := by simp; omega
          obtain rfl : k = a.fields.length := by omega
          simp only [go_sem, hd, List.take_length, Nat.reduceAdd, Nat.reduceEqDiff, Nat.reduceBEq, Nat.reduceLeDiff, reduceCtorEq, ↓reduceIte]

mutual
theorem walk55 : ∀ (a : Val), okV a → PCon Tryz.prog 55 [encV a] (.d (encV a))
  | .mk k i s t l f, ha => by
    simp only [okV] at ha
    obtain ⟨a1, a2, a3, a4⟩ := ha
    exact step55 _ a1 a2 (fun x hx => (walk55s l a3 x hx).call trivial) (fun x hx => (walk55f f a4 x hx).call trivial)
theorem walk55s : ∀ (l : List Val), okVs l → ∀ x ∈ l, PCon Tryz.prog 55 [encV x] (.d (encV x))
  | [], _, x, h => by cases h
  | v :: r, ho, x, h => by
    simp only [okVs] at ho
    by_cases e : x = v
    · rw [e]; exact walk55 v ho.1
    · exact walk55s r ho.2 x ((List.mem_cons.1 h).resolve_left e)
theorem walk55f : ∀ (l : List Fld), okFs l → ∀ x ∈ l, PCon Tryz.prog 55 [encV x.value] (.d (encV x.value))
  | [], _, x, h => by cases h
  | .mk n v :: r, ho, x, h => by
    simp only [okFs, okF] at ho
    by_cases e : x = .mk n v
    · rw [e]; exact walk55 v ho.1
    · exact walk55f r ho.2 x ((List.mem_cons.1 h).resolve_left e)
end
end Go.Proofs
