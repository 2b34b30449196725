/- expr.Check: one node. -/
import Derived.Test.YtholoaojlcnacaaGreatDoorPathD
import Derived.Test.YtholoaojlcnacaaGreatDoorPathC
set_option linter.unusedVariables false
set_option linter.unusedSimpArgs false
set_option linter.unusedSectionVars false
set_option linter.unusedSimpArgs false
set_option linter.unusedVariables false
set_option maxRecDepth 10000
namespace Go.Proofs
open Go Av

def arityF (k : Int) : Int × Int := if k = 1 ∨ k = 2 ∨ k = 22 ∨ k = 26 then (0, 0) else if k = 3 ∨ k = 16 ∨ k = 18 ∨ k = 19 ∨ k = 20 ∨ k = 27 ∨ k = 28 then (1, 1) else if k = 21 ∨ k = 24 then (3, 3) else if k = 25 then (2, 256) else (2, 2)
theorem walk168 (k : Int) : PCon Tryz.prog 168 [.int .i64 k] (.tup [.d (.int .i64 (arityF k).1), .d (.int .i64 (arityF k).2)]) := by
  refine ok168.pcon (Nat.le_of_ble_eq_true rfl) (by simp [inTR, idsIn, idsInL]) ?_
  by_cases h1 : k = 1
  · subst h1
    have e : arityF 1 = (0, 0) := by decide
    rw [e]
    simp only [go_sem, ir168, Int.reduceBEq, Int.reduceEq, Nat.reduceAdd, Nat.reduceEqDiff, Nat.reduceBEq, Nat.reduceLeDiff, reduceCtorEq, ↓reduceIte]
  have b1 : (k == 1) = false := by simp [h1]
  by_cases h2 : k = 2
  · subst h2
    have e : arityF 2 = (0, 0) := by decide
    rw [e]
    simp only [go_sem, ir168, Int.reduceBEq, Int.reduceEq, Nat.reduceAdd, Nat.reduceEqDiff, Nat.reduceBEq, Nat.reduceLeDiff, reduceCtorEq, ↓reduceIte]
  have b2 : (k == 2) = false := by simp [h2]
  by_cases h22 : k = 22
  · subst h22
    have e : arityF 22 = (0, 0) := by decide
    rw [e]
    simp only [go_sem, ir168, Int.reduceBEq, Int.reduceEq, Nat.reduceAdd, Nat.reduceEqDiff, Nat.reduceBEq, Nat.reduceLeDiff, reduceCtorEq, ↓reduceIte]
  have b22 : (k == 22) = false := by simp [h22]
  by_cases h26 : k = 26
  · subst h26
    have e : arityF 26 = (0, 0) := by decide
    rw [e]
    simp only [go_sem, ir168, Int.reduceBEq, Int.reduceEq, Nat.reduceAdd, Nat.reduceEqDiff, Nat.reduceBEq, Nat.reduceLeDiff, reduceCtorEq, ↓reduceIte]
  have b26 : (k == 26) = false := by simp [h26]
  by_cases h3 : k = 3
  · subst h3
    have e : arityF 3 = (1, 1) := by decide
    rw [e]
    simp only [go_sem, ir168, Int.reduceBEq, Int.reduceEq, Nat.reduceAdd, Nat.reduceEqDiff, Nat.reduceBEq, Nat.reduceLeDiff, reduceCtorEq, ↓reduceIte]
  have b3 : (k == 3) = false := by simp [h3]
  by_cases h16 : k = 16
  · subst h16
    have e : arityF 16 = (1, 1) := by decide
    rw [e]
    simp only [go_sem, ir168, Int.reduceBEq, Int.reduceEq, Nat.reduceAdd, Nat.reduceEqDiff, Nat.reduceBEq, Nat.reduceLeDiff, reduceCtorEq, ↓reduceIte]
  have b16 : (k == 16) = false := by simp [h16]
  by_cases h18 : k = 18
  · subst h18
    have e : arityF 18 = (1, 1) := by decide
    rw [e]
    simp only [go_sem, ir168, Int.reduceBEq, Int.reduceEq, Nat.reduceAdd, Nat.reduceEqDiff, Nat.reduceBEq, Nat.reduceLeDiff, reduceCtorEq, ↓reduceIte]
  have b18 : (k == 18) = false := by simp [h18]
  by_cases h19 : k = 19
  · subst h19
    have e : arityF 19 = (1, 1) := by decide
    rw [e]
    simp only [go_sem, ir168, Int.reduceBEq, Int.reduceEq, Nat.reduceAdd, Nat.reduceEqDiff, Nat.reduceBEq, Nat.reduceLeDiff, reduceCtorEq, ↓reduceIte]
  have b19 : (k == 19) = false := by simp [h19]
  by_cases h20 : k = 20
  · subst h20
    have e : arityF 20 = (1, 1) := by decide
    rw [e]
    simp only [go_sem, ir168, Int.reduceBEq, Int.reduceEq, Nat.reduceAdd, Nat.reduceEqDiff, Nat.reduceBEq, Nat.reduceLeDiff, reduceCtorEq, ↓reduceIte]
  have b20 : (k == 20) = false := by simp [h20]
  by_cases h27 : k = 27
  · subst h27
    have e : arityF 27 = (1, 1) := by decide
    rw [e]
    simp only [go_sem, ir168, Int.reduceBEq, Int.reduceEq, Nat.reduceAdd, Nat.reduceEqDiff, Nat.reduceBEq, Nat.reduceLeDiff, reduceCtorEq, ↓reduceIte]
  have b27 : (k == 27) = false := by simp [h27]
  by_cases h28 : k = 28
  · subst h28
    have e : arityF 28 = (1, 1) := by decide
    rw [e]
    simp only [go_sem, ir168, Int.reduceBEq, Int.reduceEq, Nat.reduceAdd, Nat.reduceEqDiff, Nat.reduceBEq, Nat.reduceLeDiff, reduceCtorEq, ↓reduceIte]
  have b28 : (k == 28) = false := by simp [h28]
  by_cases h21 : k = 21
  · subst h21
    have e : arityF 21 = (3, 3) := by decide
    rw [e]
    simp only [go_sem, ir168, Int.reduceBEq, Int.reduceEq, Nat.reduceAdd, Nat.reduceEqDiff, Nat.reduceBEq, Nat.reduceLeDiff, reduceCtorEq, ↓reduceIte]
  have b21 : (k == 21) = false := by simp [h21]
  by_cases h24 : k = 24
  · subst h24
    have e : arityF 24 = (3, 3) := by decide
    rw [e]
    simp only [go_sem, ir168, Int.reduceBEq, Int.reduceEq, Nat.reduceAdd, Nat.reduceEqDiff, Nat.reduceBEq, Nat.reduceLeDiff, reduceCtorEq, ↓reduceIte]
  have b24 : (k == 24) = false := by simp [h24]
  by_cases h25 : k = 25
  · subst h25
    have e : arityF 25 = (2, 256) := by decide
    rw [e]
    simp only [go_sem, ir168, Int.reduceBEq, Int.reduceEq, Nat.reduceAdd, Nat.reduceEqDiff, Nat.reduceBEq, Nat.reduceLeDiff, reduceCtorEq, ↓reduceIte]
  have b25 : (k == 25) = false := by simp [h25]
  have e : arityF k = (2, 2) := by simp [arityF, h1, h2, h22, h26, h3, h16, h18, h19, h20, h27, h28, h21, h24, h25]
  rw [e]
  simp only [go_sem, ir168, b1, b2, b22, b26, b3, b16, b18, b19, b20, b27, b28, b21, b24, b25, Nat.reduceAdd, Nat.reduceEqDiff, Nat.reduceBEq, Nat.reduceLeDiff, reduceCtorEq, ↓reduceIte]

def pathedB (k : Int) : Bool := (k == 2) || (k == 22) || (k == 26)
theorem walk67 (k : Int) : PCon Tryz.prog 67 [.int .i64 k] (.d (.bool (pathedB k))) := by
  refine ok67.pcon (Nat.le_of_ble_eq_true rfl) trivial ?_
  simp only [go_sem, ir67, Nat.reduceAdd, Nat.reduceEqDiff, Nat.reduceBEq, Nat.reduceLeDiff, reduceCtorEq, ↓reduceIte]
  refine scQ_pure (k == 22) (fun _ => ?_) ?_
  · simp only [go_sem, Nat.reduceAdd, Nat.reduceEqDiff, Nat.reduceBEq, Nat.reduceLeDiff, reduceCtorEq, ↓reduceIte]
  simp only [go_sem, Nat.reduceAdd, Nat.reduceEqDiff, Nat.reduceBEq, Nat.reduceLeDiff, reduceCtorEq, ↓reduceIte]
  refine scQ_pure (k == 26) (fun _ => ?_) ?_
  · simp only [go_sem, Nat.reduceAdd, Nat.reduceEqDiff, Nat.reduceBEq, Nat.reduceLeDiff, reduceCtorEq, ↓reduceIte]
  simp only [go_sem, pathedB, Nat.reduceAdd, Nat.reduceEqDiff, Nat.reduceBEq, Nat.reduceLeDiff, reduceCtorEq, ↓reduceIte]
def scaledB (k : Int) : Bool := (k == 15) || (k == 26)
theorem walk169 (k : Int) : PCon Tryz.prog 169 [.int .i64 k] (.d (.bool (scaledB k))) := by
  refine ok169.pcon (Nat.le_of_ble_eq_true rfl) trivial ?_
  simp only [go_sem, ir169, Nat.reduceAdd, Nat.reduceEqDiff, Nat.reduceBEq, Nat.reduceLeDiff, reduceCtorEq, ↓reduceIte]
  refine scQ_pure (k == 26) (fun _ => ?_) ?_
  · simp only [go_sem, Nat.reduceAdd, Nat.reduceEqDiff, Nat.reduceBEq, Nat.reduceLeDiff, reduceCtorEq, ↓reduceIte]
  simp only [go_sem, scaledB, Nat.reduceAdd, Nat.reduceEqDiff, Nat.reduceBEq, Nat.reduceLeDiff, reduceCtorEq, ↓reduceIte]
def scalarB (k : Int) : Bool := decide (k ≥ 1) && decide (k ≤ 7)
theorem walk227 (k : Int) : PCon Tryz.prog 227 [.int .i64 k] (.d (.bool (scalarB k))) := by
  refine ok227.pcon (Nat.le_of_ble_eq_true rfl) trivial ?_
  simp only [go_sem, ir227, Nat.reduceAdd, Nat.reduceEqDiff, Nat.reduceBEq, Nat.reduceLeDiff, reduceCtorEq, ↓reduceIte]
  refine scQ_pure (decide (k ≤ 7)) (fun _ => ?_) ?_
  · simp only [go_sem, Nat.reduceAdd, Nat.reduceEqDiff, Nat.reduceBEq, Nat.reduceLeDiff, reduceCtorEq, ↓reduceIte]
  simp only [go_sem, scalarB, Nat.reduceAdd, Nat.reduceEqDiff, Nat.reduceBEq, Nat.reduceLeDiff, reduceCtorEq, ↓reduceIte]

def cvE : List Val → Int
  | [] => 4
  | [v] => if chkV v != 0 then chkV v else if !scalarB v.kind then 18 else 0
  | _ => 3
theorem walk170 (l : List Val) : PCon Tryz.prog 170 [.list 6 (l.map encV)] (.d (.int .i64 (cvE l))) := by
  refine ok170.pcon (Nat.le_of_ble_eq_true rfl) trivial ?_
  match l with
  | [] =>
    have e0 : (((0 : Nat) : Int) == 0) = true := rfl
    simp only [go_sem, ir170, List.map_nil, List.length_nil, e0, Nat.reduceAdd, Nat.reduceEqDiff, Nat.reduceBEq, Nat.reduceLeDiff, reduceCtorEq, ↓reduceIte]
    rfl
  | [v] =>
    have e0 : (((1 : Nat) : Int) == 0) = false := rfl
    have e1 : (((1 : Nat) : Int) == 1) = true := rfl
    have hx := nth_encV (xs := [v]) (k := 0) (by simp)
    have c30 := (walk15 v).call trivial
    have c273 := (walk227 v.kind).call trivial
    rw [encV_eq] at c30
    simp only [List.map_cons, List.map_nil, List.getElem_cons_zero] at hx
    simp only [go_sem, ir170, List.map_cons, List.map_nil, List.length_cons, List.length_nil, Int.toNat_zero, hx, Nat.zero_add, e0, e1, Nat.reduceAdd, Nat.reduceEqDiff, Nat.reduceBEq, Nat.reduceLeDiff, reduceCtorEq, ↓reduceIte]
    refine ⟨by decide, wps_call rfl c30 trivial ?_⟩
    simp only [go_sem, Int.toNat_zero, hx, Nat.reduceAdd, Nat.reduceEqDiff, Nat.reduceBEq, Nat.reduceLeDiff, reduceCtorEq, ↓reduceIte]
    refine ⟨fun h => ?_, fun h => ⟨by decide, by decide, ?_⟩⟩
    · rw [cvE, if_pos h]
    rw [cvE, if_neg (by simp [h])]
    refine wps_call rfl c273 trivial ?_
    simp only [go_sem, Nat.reduceAdd, Nat.reduceEqDiff, Nat.reduceBEq, Nat.reduceLeDiff, reduceCtorEq, ↓reduceIte]
    refine ⟨fun h2 => ?_, fun h2 => ?_⟩
    · rw [if_pos h2]
    · rw [if_neg (by simp [h2])]
  | v :: w :: r =>
    have e0 : ((((r.map encV).length + 1 + 1 : Nat) : Int) == 0) = false := by simp; omega
    have e1 : ((((r.map encV).length + 1 + 1 : Nat) : Int) == 1) = false := by simp; omega
    simp only [go_sem, ir170, List.map_cons, List.length_cons, e0, e1, Nat.reduceAdd, Nat.reduceEqDiff, Nat.reduceBEq, Nat.reduceLeDiff, reduceCtorEq, ↓reduceIte]
    rfl

theorem walk171 (p : Part) : PCon Tryz.prog 171 [encP p] (.d (.bool (p.kind == 3))) := by
  refine ok171.pcon (Nat.le_of_ble_eq_true rfl) trivial ?_
  simp only [encP]
  simp only [go_sem, ir171, Nat.reduceAdd, Nat.reduceEqDiff, Nat.reduceBEq, Nat.reduceLeDiff, reduceCtorEq, ↓reduceIte]

def idxQ (q : Part → Bool) (l : List Part) : Int := match l.findIdx? q with
  | some k => (k : Int)
  | none => -1
theorem walk149g {f : Nat} {q : Part → Bool} (hq : ∀ p, PCon Tryz.prog f [encP p] (.d (.bool (q p)))) (l : List Part) (hl : l.length ≤ 68719476736) : PCon Tryz.prog 149 [.list 3 (l.map encP), .fn (.func f) [] []] (.d (.int .i64 (idxQ q l))) := by
  refine ok149.pcon (Nat.le_of_ble_eq_true rfl) trivial ?_
  simp only [go_sem, ir149, List.length_map, Nat.reduceAdd, Nat.reduceEqDiff, Nat.reduceBEq, Nat.reduceLeDiff, reduceCtorEq, ↓reduceIte]
  refine wpc_loop (fun n s => ∃ k : Nat, k ≤ l.length ∧ n = l.length - k ∧ (∀ (j : Nat) (h1 : j < l.length), j < k → q l[j] = false) ∧
    s = ⟨[(0, .d (.list 3 (l.map encP))), (1, .d (.fn (.func f) [] [])), (7, .d (.int .i64 l.length)), (8, .d (.int .i64 k))], []⟩) ?_ ?_
  · exact ⟨_, _, Wk.refl _, 0, Nat.zero_le _, rfl, by simp, rfl⟩
  · rintro n s ⟨k, hk, rfl, hinv, rfl⟩
    by_cases hlt : k < l.length
    · have hx := nth_encP hlt
      have hd : decide ((k : Int) < (l.length : Int)) = true := by simp; omega
      have hc := (hq l[k]).call trivial
      simp only [encP] at hc
      simp only [go_sem, hx, hd, Int.toNat_natCast, List.length_map, Nat.reduceAdd, Nat.reduceEqDiff, Nat.reduceBEq, Nat.reduceLeDiff, reduceCtorEq, ↓reduceIte]
      refine ⟨by omega, wps_call rfl hc trivial ?_⟩
      simp only [go_sem, Nat.reduceAdd, Nat.reduceEqDiff, Nat.reduceBEq, Nat.reduceLeDiff, reduceCtorEq, ↓reduceIte]
      refine ⟨fun hf => ?_, fun hf => ?_⟩
      · have : l.findIdx? q = some k := by
          rw [List.findIdx?_eq_some_iff_getElem]
          exact ⟨hlt, hf, fun j hj => by rw [hinv j (by omega) hj]; decide⟩
        simp only [idxQ, this]
      · refine ⟨l.length - (k + 1), _, by omega, Wk.less ?_, k + 1, by omega, rfl, ?_, rfl⟩
        · simp only [go_sem, wrap64s k (by omega), Nat.reduceAdd, Nat.reduceEqDiff, Nat.reduceBEq, Nat.reduceLeDiff, reduceCtorEq, ↓reduceIte]
        · intro j h1 hj
          by_cases e : j = k
          · subst e; exact hf
          · exact hinv j h1 (by omega)
    · have hd : decide ((k : Int) < (l.length : Int)) = false := by simp; omega
      simp only [go_sem, hd, Nat.reduceAdd, Nat.reduceEqDiff, Nat.reduceBEq, Nat.reduceLeDiff, reduceCtorEq, ↓reduceIte]
      have : l.findIdx? q = none := by
        rw [List.findIdx?_eq_none_iff]
        intro x hx
        obtain ⟨j, hj, rfl⟩ := List.getElem_of_mem hx
        exact hinv j hj (by omega)
      simp only [idxQ, this]


theorem walk81g {f : Nat} {q : Part → Bool} (hq : ∀ p, PCon Tryz.prog f [encP p] (.d (.bool (q p)))) (l : List Part) (hl : l.length ≤ 68719476736) : PCon Tryz.prog 81 [.list 3 (l.map encP), .fn (.func f) [] []] (.d (.bool (l.any q))) := by
  refine ok81.pcon (Nat.le_of_ble_eq_true rfl) trivial ?_
  simp only [go_sem, ir81, Nat.reduceAdd, Nat.reduceEqDiff, Nat.reduceBEq, Nat.reduceLeDiff, reduceCtorEq, ↓reduceIte]
  refine wps_call rfl ((walk149g hq l hl).call trivial) trivial ?_
  have : decide (idxQ q l ≥ 0) = l.any q := by
    unfold idxQ
    cases e : l.findIdx? q with
    | none =>
      rw [List.findIdx?_eq_none_iff] at e
      have : l.any q = false := by rw [List.any_eq_false]; intro x hx; rw [e x hx]; decide
      rw [this]; simp
    | some k =>
      obtain ⟨h1, h2, _⟩ := List.findIdx?_eq_some_iff_getElem.1 e
      have : l.any q = true := by rw [List.any_eq_true]; exact ⟨_, List.getElem_mem h1, h2⟩
      rw [this]; simp
  simp only [go_sem, this, Nat.reduceAdd, Nat.reduceEqDiff, Nat.reduceBEq, Nat.reduceLeDiff, reduceCtorEq, ↓reduceIte]


noncomputable def oneE (e : Exp) : Int :=
  if decide (e.op < 1) || decide (e.op > 28) then 11
  else if ((e.op != 1 && decide ((e.value.length : Int) > 0)) || (!pathedB e.op && e.text != [])) || (!scaledB e.op && e.int != 0) then 3
  else if (arityF e.op).2 == 0 && decide ((e.args.length : Int) > 0) then 3
  else if decide ((e.args.length : Int) < (arityF e.op).1) then 4
  else if decide ((e.args.length : Int) > (arityF e.op).2) && e.op != 25 then 3
  else if e.op == 1 then cvE e.value
  else if pathedB e.op && (parseS e.text).2 != 0 then (parseS e.text).2
  else if pathedB e.op && !(((parseS e.text).1.any fun p => p.kind == 3) == (e.op == 26)) then 22
  else if scaledB e.op && (decide (e.int < 0) || decide (e.int > 12)) then 2 else 0
theorem fits_E {e : Exp} (h : fits (encE e)) : e.text.length ≤ 68719476736 ∧ e.value.length ≤ 68719476736 ∧ e.args.length ≤ 68719476736 ∧ ∀ x ∈ e.args, fits (encE x) := by
  rw [encE_eq] at h
  simp only [fits, fitsL, List.length_map, and_true] at h
  obtain ⟨_, _, h1, ⟨h2, h3⟩, h4, h5⟩ := h
  exact ⟨h1, h2, h4, fun x hx => fitsL_iff.1 h5 _ (List.mem_map.2 ⟨x, hx, rfl⟩)⟩

theorem parseS_len16 (s : Str) : (parseS s).1.length ≤ 68719476736 := by
  unfold parseS
  split
  · simp
  split
  · simp
  split
  · split
    · simp
    · rename_i h; simp at h ⊢; omega
  · simp
theorem walk120 (e : Exp) : PCon Tryz.prog 120 [encE e] (.d (.int .i64 (oneE e))) := by
  refine PCon.of_fits ok120.has fun hfit => ?_
  obtain ⟨ft, fv, fa, _⟩ := fits_E (hfit _ (List.mem_singleton.2 rfl))
  refine ok120.pcon (Nat.le_of_ble_eq_true rfl) trivial ?_
  generalize hR : oneE e = R
  rw [encE_eq]
  simp only [go_sem, ir120, Nat.reduceAdd, Nat.reduceEqDiff, Nat.reduceBEq, Nat.reduceLeDiff, reduceCtorEq, ↓reduceIte]
  refine scQ_pure (decide (e.op > 28)) (fun _ => ?_) ?_
  · simp only [go_sem, Nat.reduceAdd, Nat.reduceEqDiff, Nat.reduceBEq, Nat.reduceLeDiff, reduceCtorEq, ↓reduceIte]
  simp only [go_sem, Nat.reduceAdd, Nat.reduceEqDiff, Nat.reduceBEq, Nat.reduceLeDiff, reduceCtorEq, ↓reduceIte]
  refine ⟨fun h1 => ?_, fun h1 => wps_call rfl ((walk168 e.op).call (by simp [pureR])) trivial ?_⟩
  · rw [← hR, oneE, if_pos h1]
  rw [oneE, if_neg (by simp only [h1]; decide)] at hR
  simp only [go_sem, List.length_map, Nat.reduceAdd, Nat.reduceEqDiff, Nat.reduceBEq, Nat.reduceLeDiff, reduceCtorEq, ↓reduceIte]
  refine scQ_pure (decide ((e.value.length : Int) > 0)) (fun _ => ?_) ?_
  · simp only [go_sem, List.length_map, Nat.reduceAdd, Nat.reduceEqDiff, Nat.reduceBEq, Nat.reduceLeDiff, reduceCtorEq, ↓reduceIte]
  simp only [go_sem, Nat.reduceAdd, Nat.reduceEqDiff, Nat.reduceBEq, Nat.reduceLeDiff, reduceCtorEq, ↓reduceIte]
  refine scQ_pure (!pathedB e.op && e.text != []) (fun _ => ?_) ?_
  · simp only [go_sem, Nat.reduceAdd, Nat.reduceEqDiff, Nat.reduceBEq, Nat.reduceLeDiff, reduceCtorEq, ↓reduceIte]
    refine wps_call rfl ((walk67 _).call trivial) trivial ?_
    simp only [go_sem, Nat.reduceAdd, Nat.reduceEqDiff, Nat.reduceBEq, Nat.reduceLeDiff, reduceCtorEq, ↓reduceIte]
    refine scQ_pure (e.text != []) (fun _ => ?_) ?_
    · simp only [go_sem, Nat.reduceAdd, Nat.reduceEqDiff, Nat.reduceBEq, Nat.reduceLeDiff, reduceCtorEq, ↓reduceIte]
      try rfl
    simp only [go_sem, Nat.reduceAdd, Nat.reduceEqDiff, Nat.reduceBEq, Nat.reduceLeDiff, reduceCtorEq, ↓reduceIte]
  simp only [go_sem, Nat.reduceAdd, Nat.reduceEqDiff, Nat.reduceBEq, Nat.reduceLeDiff, reduceCtorEq, ↓reduceIte]
  refine scQ_pure (!scaledB e.op && e.int != 0) (fun _ => ?_) ?_
  · simp only [go_sem, Nat.reduceAdd, Nat.reduceEqDiff, Nat.reduceBEq, Nat.reduceLeDiff, reduceCtorEq, ↓reduceIte]
    refine wps_call rfl ((walk169 _).call trivial) trivial ?_
    simp only [go_sem, Nat.reduceAdd, Nat.reduceEqDiff, Nat.reduceBEq, Nat.reduceLeDiff, reduceCtorEq, ↓reduceIte]
    refine scQ_pure (e.int != 0) (fun _ => ?_) ?_
    · simp only [go_sem, Nat.reduceAdd, Nat.reduceEqDiff, Nat.reduceBEq, Nat.reduceLeDiff, reduceCtorEq, ↓reduceIte]
    simp only [go_sem, Nat.reduceAdd, Nat.reduceEqDiff, Nat.reduceBEq, Nat.reduceLeDiff, reduceCtorEq, ↓reduceIte]
  simp only [go_sem, Nat.reduceAdd, Nat.reduceEqDiff, Nat.reduceBEq, Nat.reduceLeDiff, reduceCtorEq, ↓reduceIte]
  refine ⟨fun h2 => ?_, fun h2 => ?_⟩
  · rw [if_pos h2] at hR
    rw [hR]
  rw [if_neg (by rw [h2]; exact Bool.false_ne_true)] at hR
  refine scQ_pure (decide ((e.args.length : Int) > 0)) (fun _ => ?_) ?_
  · simp only [go_sem, List.length_map, Nat.reduceAdd, Nat.reduceEqDiff, Nat.reduceBEq, Nat.reduceLeDiff, reduceCtorEq, ↓reduceIte]
  simp only [go_sem, List.length_map, Nat.reduceAdd, Nat.reduceEqDiff, Nat.reduceBEq, Nat.reduceLeDiff, reduceCtorEq, ↓reduceIte]
  refine ⟨fun h3 => ?_, fun h3 => ⟨fun h4 => ?_, fun h4 => ?_⟩⟩
  · rw [if_pos h3] at hR
    rw [hR]
  · rw [if_neg (by rw [h3]; exact Bool.false_ne_true), if_pos h4] at hR
    rw [hR]
  rw [if_neg (by rw [h3]; exact Bool.false_ne_true), if_neg (by rw [h4]; exact Bool.false_ne_true)] at hR
  refine scQ_pure (e.op != 25) (fun _ => ?_) ?_
  · simp only [go_sem, Nat.reduceAdd, Nat.reduceEqDiff, Nat.reduceBEq, Nat.reduceLeDiff, reduceCtorEq, ↓reduceIte]
  simp only [go_sem, Nat.reduceAdd, Nat.reduceEqDiff, Nat.reduceBEq, Nat.reduceLeDiff, reduceCtorEq, ↓reduceIte]
  refine ⟨fun h5 => ?_, fun h5 => ⟨fun h6 => ?_, fun h6 => ?_⟩⟩
  · rw [if_pos h5] at hR
    rw [hR]
  · rw [if_neg (by rw [h5]; exact Bool.false_ne_true), if_pos h6] at hR
    refine wps_call rfl ((walk170 e.value).call trivial) trivial ?_
    simp only [go_sem, hR, Nat.reduceAdd, Nat.reduceEqDiff, Nat.reduceBEq, Nat.reduceLeDiff, reduceCtorEq, ↓reduceIte]
  rw [if_neg (by rw [h5]; exact Bool.false_ne_true), if_neg (by rw [h6]; exact Bool.false_ne_true)] at hR
  refine wps_call rfl ((walk67 _).call trivial) trivial ?_
  simp only [go_sem, Nat.reduceAdd, Nat.reduceEqDiff, Nat.reduceBEq, Nat.reduceLeDiff, reduceCtorEq, ↓reduceIte]
  refine ⟨fun hp => ?_, fun hp => ?_⟩
  · rw [hp] at hR
    simp only [Bool.true_and] at hR
    refine wps_call rfl ((walk80 e.text ft).call (by simp [pureR])) trivial ?_
    simp only [go_sem, Nat.reduceAdd, Nat.reduceEqDiff, Nat.reduceBEq, Nat.reduceLeDiff, reduceCtorEq, ↓reduceIte]
    refine ⟨fun h7 => ?_, fun h7 => ?_⟩
    · rw [if_pos h7] at hR
      rw [hR]
    rw [if_neg (by rw [h7]; exact Bool.false_ne_true)] at hR
    refine wps_call rfl ((walk81g walk171 _ (parseS_len16 e.text)).call trivial) trivial ?_
    simp only [go_sem, Nat.reduceAdd, Nat.reduceEqDiff, Nat.reduceBEq, Nat.reduceLeDiff, reduceCtorEq, ↓reduceIte]
    refine ⟨fun h8 => ?_, fun h8 => ?_⟩
    · rw [if_pos h8] at hR
      rw [hR]
    rw [if_neg (by rw [h8]; exact Bool.false_ne_true)] at hR
    refine wps_call rfl ((walk169 _).call trivial) trivial ?_
    simp only [go_sem, Nat.reduceAdd, Nat.reduceEqDiff, Nat.reduceBEq, Nat.reduceLeDiff, reduceCtorEq, ↓reduceIte]
    refine scQ_pure (decide (e.int < 0) || decide (e.int > 12)) (fun _ => ?_) ?_
    · simp only [go_sem, Nat.reduceAdd, Nat.reduceEqDiff, Nat.reduceBEq, Nat.reduceLeDiff, reduceCtorEq, ↓reduceIte]
      refine scQ_pure (decide (e.int > 12)) (fun _ => ?_) ?_
      · simp only [go_sem, Nat.reduceAdd, Nat.reduceEqDiff, Nat.reduceBEq, Nat.reduceLeDiff, reduceCtorEq, ↓reduceIte]
      simp only [go_sem, Nat.reduceAdd, Nat.reduceEqDiff, Nat.reduceBEq, Nat.reduceLeDiff, reduceCtorEq, ↓reduceIte]
    simp only [go_sem, Nat.reduceAdd, Nat.reduceEqDiff, Nat.reduceBEq, Nat.reduceLeDiff, reduceCtorEq, ↓reduceIte]
    refine ⟨fun h9 => ?_, fun h9 => ?_⟩
    · rw [if_pos h9] at hR
      rw [hR]
    · rw [if_neg (by rw [h9]; exact Bool.false_ne_true)] at hR
      rw [hR]
  · rw [hp] at hR
    simp only [Bool.false_and, Bool.false_eq_true, if_false] at hR
    refine wps_call rfl ((walk169 _).call trivial) trivial ?_
    simp only [go_sem, Nat.reduceAdd, Nat.reduceEqDiff, Nat.reduceBEq, Nat.reduceLeDiff, reduceCtorEq, ↓reduceIte]
    refine scQ_pure (decide (e.int < 0) || decide (e.int > 12)) (fun _ => ?_) ?_
    · simp only [go_sem, Nat.reduceAdd, Nat.reduceEqDiff, Nat.reduceBEq, Nat.reduceLeDiff, reduceCtorEq, ↓reduceIte]
      refine scQ_pure (decide (e.int > 12)) (fun _ => ?_) ?_
      · simp only [go_sem, Nat.reduceAdd, Nat.reduceEqDiff, Nat.reduceBEq, Nat.reduceLeDiff, reduceCtorEq, ↓reduceIte]
      simp only [go_sem, Nat.reduceAdd, Nat.reduceEqDiff, Nat.reduceBEq, Nat.reduceLeDiff, reduceCtorEq, ↓reduceIte]
    simp only [go_sem, Nat.reduceAdd, Nat.reduceEqDiff, Nat.reduceBEq, Nat.reduceLeDiff, reduceCtorEq, ↓reduceIte]
    refine ⟨fun h9 => ?_, fun h9 => ?_⟩
    · rw [if_pos h9] at hR
      rw [hR]
    · rw [if_neg (by rw [h9]; exact Bool.false_ne_true)] at hR
      rw [hR]
end Go.Proofs
/- expr.Check. -/
set_option linter.unusedSimpArgs false
set_option linter.unusedVariables false
set_option maxRecDepth 10000
namespace Go.Proofs
open Go Av

/-- a call that is handed two things of the caller's and changes the first -/
theorem Con.twoU {P : Program} {f : Nat} {args : List Av} {o1 o2 o' : Av.Obj} {r : Dat} (h : Con P f args [(1000, o1), (1001, o2)] (.d r) [(1000, o')]) (i j : Nat) (hij : i ≠ j)
    (hargs : ∀ c ∈ args, inT (get [(1000, o1), (1001, o2)]) c) (hcl : closed (get [(1000, o1), (1001, o2)])) (hcl' : closed (get [(1000, o'), (1001, o2)])) :
    CallOK P f (args.map (Av.ren fun n => if n = 1000 then i else j)) [(i, some (o1.ren fun n => if n = 1000 then i else j)), (j, some (o2.ren fun n => if n = 1000 then i else j))] (.d r) [(i, o'.ren fun n => if n = 1000 then i else j)] := by
  have e : hputs (get [(1000, o1), (1001, o2)]) [(1000, o')] = get [(1000, o'), (1001, o2)] := by
    rw [← get_puts]; rfl
  have := h.call (fun n => if n = 1000 then i else j) (fun k hk => by rcases two_dom hk with rfl | rfl <;> decide) (fun a b ha hb e' => ?_) hargs hcl [] (by simp [Av.get]) (by rw [e]; exact hcl') trivial
  · simpa [Av.ren] using this
  · rw [e] at ha hb
    rcases two_dom ha with rfl | rfl <;> rcases two_dom hb with rfl | rfl
    · rfl
    · simp at e'; exact absurd e' hij
    · simp at e'; exact absurd e'.symm hij
    · rfl

def foldE (f : Int → Exp → Int × Int) : Int → List Exp → Int × Int
  | n, [] => (0, n)
  | n, v :: r => if (f n v).1 ≠ 0 then f n v else foldE f (f n v).2 r
/-- the walk over an expression: the error, the counter -/
noncomputable def eF : Nat → Int → Exp → Int × Int
  | 0, n, e => if n = 256 then (9, n) else (23, n + 1)
  | k + 1, n, e => if n = 256 then (9, n) else if oneE e ≠ 0 then (oneE e, n + 1) else foldE (eF k) (n + 1) e.args
theorem foldE_n {f : Int → Exp → Int × Int} (hf : ∀ n v, 0 ≤ n → n ≤ 256 → 0 ≤ (f n v).2 ∧ (f n v).2 ≤ 256) : ∀ (l : List Exp) (n : Int), 0 ≤ n → n ≤ 256 → 0 ≤ (foldE f n l).2 ∧ (foldE f n l).2 ≤ 256
  | [], n, h0, h1 => ⟨h0, h1⟩
  | v :: r, n, h0, h1 => by
    simp only [foldE]
    split
    · exact hf n v h0 h1
    · exact foldE_n hf r _ (hf n v h0 h1).1 (hf n v h0 h1).2
theorem eF_n : ∀ (k : Nat) (n : Int) (e : Exp), 0 ≤ n → n ≤ 256 → 0 ≤ (eF k n e).2 ∧ (eF k n e).2 ≤ 256
  | 0, n, e, h0, h1 => by
    simp only [eF]
    split
    · exact ⟨h0, h1⟩
    · simp only; omega
  | k + 1, n, e, h0, h1 => by
    simp only [eF]
    split
    · exact ⟨h0, h1⟩
    · split
      · simp only; omega
      · exact foldE_n (eF_n k) _ _ (by omega) (by omega)

abbrev TE (n : Int) : List (Nat × Av.Obj) := [(1000, .box [.d (.int .i64 n)]), (1001, .box [.clo (.func 119) [] [.ref 1000 0, .ref 1001 0]])]
theorem TE_closed (n : Int) : closed (get (TE n)) := by
  refine closed_of ?_
  simp [closedH, objIn, idsInL, idsIn, Av.get]
theorem TE_ups (n m : Int) : closed (hputs (get (TE n)) [(1000, .box [.d (.int .i64 m)])]) := by
  have e : hputs (get (TE n)) [(1000, .box [.d (.int .i64 m)])] = get (TE m) := by rw [← get_puts]; rfl
  rw [e]; exact TE_closed m
theorem call119 {e : Exp} {level n m x : Int} (h : Con Tryz.prog 119 [.d (encE e), .d (.int .i64 level), .ref 1000 0, .ref 1001 0] (TE n) (.d (.int .i64 x)) [(1000, .box [.d (.int .i64 m)])]) (i j : Nat) (hij : i ≠ j) :
    CallOK Tryz.prog 119 [.d (encE e), .d (.int .i64 level), .ref i 0, .ref j 0] [(i, some (.box [.d (.int .i64 n)])), (j, some (.box [.clo (.func 119) [] [.ref i 0, .ref j 0]]))] (.d (.int .i64 x)) [(i, .box [.d (.int .i64 m)])] := by
  have := Con.twoU h i j hij (by simp [idsIn, Av.get]) (TE_closed n) (TE_closed m)
  simp [Av.ren, Obj.ren, renL] at this
  exact this

theorem walk119 : ∀ (k : Nat) (n : Int) (e : Exp), k ≤ 8 → 0 ≤ n → n ≤ 256 →
    Con Tryz.prog 119 [.d (encE e), .d (.int .i64 (9 - k)), .ref 1000 0, .ref 1001 0] (TE n) (.d (.int .i64 (eF k n e).1)) [(1000, .box [.d (.int .i64 (eF k n e).2)])] := by
  intro k
  induction k with
  | zero =>
    intro n e hk h0 h1
    refine ok119.con (k := false) (Nat.le_of_ble_eq_true rfl) (TE_ups _ _) trivial ?_
    rw [encE_eq]
    have hd : decide ((9 : Int) - ((0 : Nat) : Int) > 8) = true := rfl
    simp only [TE, go_sem, ir119, hd, Nat.reduceAdd, Nat.reduceEqDiff, Nat.reduceBEq, Nat.reduceLeDiff, reduceCtorEq, ↓reduceIte]
    refine ⟨fun h => ?_, fun h => ?_⟩
    · have : n = 256 := by simpa using h
      simp only [eF, if_pos this]
      exact ⟨trivial, trivial⟩
    · have hn : ¬ n = 256 := by simpa using h
      have hw : IntKind.i64.wrap (n + 1) = n + 1 := wrap64 (by omega) (by omega)
      simp only [eF, if_neg hn, hw]
      exact ⟨trivial, trivial⟩
  | succ k ih =>
    intro n e hk h0 h1
    have hl : 9 - ((k + 1 : Nat) : Int) = 8 - k := by omega
    rw [hl]
    refine Con.of_fits ok119.has fun hfit => ?_
    obtain ⟨_, _, f3, _⟩ := fits_E (hfit (encE e) (by simp))
    refine ok119.con (k := false) (Nat.le_of_ble_eq_true rfl) (TE_ups _ _) trivial ?_
    have h179 := (walk120 e).call trivial
    generalize hF : eF (k + 1) n e = F
    rw [encE_eq] at h179 ⊢
    have hd : decide (8 - (k : Int) > 8) = false := by simp; omega
    simp only [TE, go_sem, ir119, hd, Nat.reduceAdd, Nat.reduceEqDiff, Nat.reduceBEq, Nat.reduceLeDiff, reduceCtorEq, ↓reduceIte]
    refine ⟨fun h => ?_, fun h => wps_call rfl h179 trivial ?_⟩
    · have : n = 256 := by simpa using h
      rw [eF, if_pos this] at hF
      subst hF
      simp only [go_sem, Nat.reduceAdd, Nat.reduceEqDiff, Nat.reduceBEq, Nat.reduceLeDiff, reduceCtorEq, ↓reduceIte]
    have hn : ¬ n = 256 := by simpa using h
    have hw : IntKind.i64.wrap (n + 1) = n + 1 := wrap64 (by omega) (by omega)
    rw [eF, if_neg hn] at hF
    simp only [go_sem, hw, Nat.reduceAdd, Nat.reduceEqDiff, Nat.reduceBEq, Nat.reduceLeDiff, reduceCtorEq, ↓reduceIte]
    refine ⟨fun h2 => ?_, fun h2 => ?_⟩
    · have h2 : oneE e ≠ 0 := by simpa using h2
      rw [if_pos h2] at hF
      subst hF
      exact ⟨rfl, rfl⟩
    have h2 : oneE e = 0 := by simpa using h2
    rw [if_neg (by simp [h2])] at hF
    clear h179 hfit
    generalize hP : e.args = ps at *
    simp only [List.length_map]
    refine wpc_loop (fun r s => ∃ (j : Nat) (m : Int), j ≤ ps.length ∧ r = ps.length - j ∧ 0 ≤ m ∧ m ≤ 256 ∧ foldE (eF k) m (ps.drop j) = F ∧
      s = ⟨[(1, .d (.int .i64 (8 - k))), (2, .ref 1000 0), (3, .ref 1001 0), (23, .d (.list 5 (ps.map encE))), (24, .d (.int .i64 ps.length)), (25, .d (.int .i64 j))],
        [(1000, .box [.d (.int .i64 m)]), (1001, .box [.clo (.func 119) [] [.ref 1000 0, .ref 1001 0]])]⟩) ?_ ?_
    · refine ⟨_, _, Wk.less ?_, 0, n + 1, Nat.zero_le _, rfl, by omega, by omega, hF, rfl⟩
      simp [go_sem]
    · rintro r s ⟨j, m, hj, rfl, hm0, hm1, hinv, rfl⟩
      by_cases hlt : j < ps.length
      · have hx' := nth_encE hlt
        have hd' : decide ((j : Int) < (ps.length : Int)) = true := by simp; omega
        have hw' : IntKind.i64.wrap (8 - (k : Int) + 1) = 9 - k := by rw [wrap64 (by omega) (by omega)]; omega
        have hc := call119 (ih m ps[j] (by omega) hm0 hm1) 1000 1001 (by decide)
        have hn' := eF_n k m ps[j] hm0 hm1
        rw [List.drop_eq_getElem_cons hlt, foldE] at hinv
        generalize hV : eF k m ps[j] = V at *
        rw [encE_eq] at hc
        simp only [go_sem, hx', hd', hw', Int.toNat_natCast, List.length_map, Nat.reduceAdd, Nat.reduceEqDiff, Nat.reduceBEq, Nat.reduceLeDiff, reduceCtorEq, ↓reduceIte]
        refine ⟨by omega, wps_call rfl hc ⟨rfl, rfl, trivial⟩ ?_⟩
        simp only [go_sem, Nat.reduceAdd, Nat.reduceEqDiff, Nat.reduceBEq, Nat.reduceLeDiff, reduceCtorEq, ↓reduceIte]
        refine ⟨fun h0 => ?_, fun h0 => ?_⟩
        · have h0 : V.1 ≠ 0 := by simpa using h0
          rw [if_pos h0] at hinv
          subst hinv
          exact ⟨rfl, rfl⟩
        · have h0 : V.1 = 0 := by simpa using h0
          rw [if_neg (by simp [h0])] at hinv
          refine ⟨ps.length - (j + 1), _, by omega, Wk.less ?_, j + 1, V.2, by omega, rfl, hn'.1, hn'.2, hinv, rfl⟩
          simp [go_sem, wrap64s j (by omega)]
      · have hd' : decide ((j : Int) < (ps.length : Int)) = false := by simp; omega
        obtain rfl : j = ps.length := by omega
        rw [List.drop_length, foldE] at hinv
        subst hinv
        simp only [go_sem, hd', Nat.reduceAdd, Nat.reduceEqDiff, Nat.reduceBEq, Nat.reduceLeDiff, reduceCtorEq, ↓reduceIte]

/-- the code of an expression's fault -/
noncomputable def chkX (e : Exp) : Int := (eF 8 0 e).1
theorem walk53 (e : Exp) : PCon Tryz.prog 53 [encE e] (.d (.int .i64 (chkX e))) := by
  refine ok53.pcon (Nat.le_of_ble_eq_true rfl) trivial ?_
  have hc := call119 (walk119 8 0 e (by decide) (by decide) (by decide)) 3 4 (by decide)
  have e1 : (9 : Int) - ((8 : Nat) : Int) = 1 := rfl
  rw [e1] at hc
  rw [encE_eq] at hc ⊢
  simp only [go_sem, ir53, Nat.reduceAdd, Nat.reduceEqDiff, Nat.reduceBEq, Nat.reduceLeDiff, reduceCtorEq, ↓reduceIte]
  refine wps_call rfl hc ⟨rfl, rfl, trivial⟩ ?_
  simp only [go_sem, chkX, Nat.reduceAdd, Nat.reduceEqDiff, Nat.reduceBEq, Nat.reduceLeDiff, reduceCtorEq, ↓reduceIte]
end Go.Proofs
