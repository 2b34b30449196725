/- expr.Check, with a stack: the plain law of ExprPaths' own check. -/
import Derived.Test.YtholoaojlcnacaaGreatDoorPathF
import Derived.Test.YtholoaojlcnacaaGreatDoorFormsB
set_option linter.unusedVariables false
set_option linter.unusedSimpArgs false
set_option linter.unusedSectionVars false
set_option linter.unusedSimpArgs false
set_option linter.unusedVariables false
namespace Go.Proofs
open Go Av

/-- the check with a stack of expressions and their levels; the head is the top -/
noncomputable def chkS : Nat → Int → List (Exp × Nat) → Int
  | 0, _, _ => 0
  | _ + 1, _, [] => 0
  | f + 1, n, (e, l) :: st => if n ≥ 256 then 9 else if l > 8 then 23 else if oneE e ≠ 0 then oneE e else chkS f (n + 1) (e.args.map (fun x => (x, l + 1)) ++ st)
noncomputable def runS : Int → List (Exp × Nat) → Int × Int
  | n, [] => (0, n)
  | n, (e, l) :: st => if (eF (9 - l) n e).1 ≠ 0 then eF (9 - l) n e else runS (eF (9 - l) n e).2 st
theorem runS_app : ∀ (a b : List (Exp × Nat)) (n : Int), runS n (a ++ b) = if (runS n a).1 ≠ 0 then runS n a else runS (runS n a).2 b
  | [], b, n => by simp [runS]
  | (e, l) :: a, b, n => by
    by_cases h : (eF (9 - l) n e).1 = 0
    · have e1 : ∀ st, runS n ((e, l) :: st) = runS (eF (9 - l) n e).2 st := fun st => by rw [runS, if_neg (by simp [h])]
      rw [List.cons_append, e1, e1]
      exact runS_app a b _
    · have e1 : ∀ st, runS n ((e, l) :: st) = eF (9 - l) n e := fun st => by rw [runS, if_pos h]
      rw [List.cons_append, e1, e1, if_pos h]
theorem runS_args (l : Nat) : ∀ (es : List Exp) (n : Int), runS n (es.map fun x => (x, l)) = foldE (eF (9 - l)) n es
  | [], n => rfl
  | e :: es, n => by
    simp only [List.map_cons, runS, foldE]
    rw [runS_args l es]
theorem chkS_run : ∀ (f : Nat) (n : Int) (st : List (Exp × Nat)), 0 ≤ n → n ≤ 256 → 256 - n < f → (∀ x ∈ st, 1 ≤ x.2 ∧ x.2 ≤ 9) → chkS f n st = (runS n st).1
  | 0, n, st, _, h1, h2, _ => by omega
  | f + 1, n, [], _, _, _, _ => rfl
  | f + 1, n, (e, l) :: st, h0, h1, h2, hl => by
    obtain ⟨l1, l9⟩ := hl (e, l) List.mem_cons_self
    simp only at l1 l9
    by_cases hn : n = 256
    · have : eF (9 - l) n e = (9, n) := by
        cases 9 - l <;> simp [eF, hn]
      rw [chkS, if_pos (by omega), runS, this, if_pos (by simp)]
    · have hn' : ¬ n ≥ 256 := by omega
      by_cases hd : l = 9
      · subst hd
        simp [chkS, runS, eF, hn, hn']
      · obtain ⟨k, hk⟩ : ∃ k, 9 - l = k + 1 := ⟨9 - l - 1, by omega⟩
        have hk' : 9 - (l + 1) = k := by omega
        have hl8 : ¬ l > 8 := by omega
        by_cases ho : oneE e = 0
        · have ee : eF (9 - l) n e = foldE (eF k) (n + 1) e.args := by rw [hk, eF, if_neg hn, if_neg (by simp [ho])]
          rw [chkS, if_neg hn', if_neg hl8, if_neg (by simp [ho]), chkS_run f (n + 1) _ (by omega) (by omega) (by omega) (fun x hx => by
            rcases List.mem_append.1 hx with h | h
            · obtain ⟨y, _, rfl⟩ := List.mem_map.1 h
              simp only; omega
            · exact hl x (List.mem_cons_of_mem _ h)), runS_app, runS_args, hk', runS, ee]
        · have ee : eF (9 - l) n e = (oneE e, n + 1) := by rw [hk, eF, if_neg hn, if_pos ho]
          rw [chkS, if_neg hn', if_neg hl8, if_pos ho, runS, ee, if_pos ho]
theorem chkS_X (e : Exp) : chkS 257 0 [(e, 1)] = chkX e := by
  rw [chkS_run 257 0 _ (by decide) (by decide) (by decide) (by simp)]
  simp only [runS, chkX]
  split
  · rfl
  · rename_i h
    exact (Decidable.not_not.1 h).symm
end Go.Proofs
/- The law's own test of one node of an expression is expr's. -/
set_option linter.unusedSimpArgs false
set_option linter.unusedVariables false
namespace Go.Proofs
open Go Av

def arityG (k : Int) : Int × Int := if k = 25 then (2, 4611686018427387904) else arityF k
def ownV : List Val → Int
  | [] => 4
  | [v] => if chkV v != 0 then chkV v else if decide (v.kind > 7) then 18 else 0
  | _ => 3
noncomputable def ownE (e : Exp) : Int :=
  if decide (e.op < 1) || decide (e.op > 28) then 11
  else if (((!pathedB e.op && e.text != []) || (!scaledB e.op && e.int != 0)) || (e.op != 1 && decide ((e.value.length : Int) > 0))) || ((arityG e.op).2 == 0 && decide ((e.args.length : Int) > 0)) then 3
  else if decide ((e.args.length : Int) < (arityG e.op).1) then 4
  else if decide ((e.args.length : Int) > (arityG e.op).2) then 3
  else if e.op == 1 then ownV e.value
  else if pathedB e.op && (parseS e.text).2 != 0 then (parseS e.text).2
  else if pathedB e.op && !(((parseS e.text).1.any fun p => p.kind == 3) == (e.op == 26)) then 22
  else if scaledB e.op && (decide (e.int < 0) || decide (e.int > 12)) then 2 else 0

theorem chkV_kind {v : Val} (h : chkV v = 0) : 1 ≤ v.kind := by
  unfold chkV at h
  simp only [visF] at h
  split at h
  · rename_i hx; exact absurd h hx
  · rename_i hx
    simp only [ne_eq, Decidable.not_not] at hx
    unfold chkE at hx
    split at hx
    · cases hx
    split at hx
    · cases hx
    split at hx
    · cases hx
    split at hx
    · cases hx
    · rename_i hk
      simp at hk
      omega
theorem ownV_eq (l : List Val) : ownV l = cvE l := by
  match l with
  | [] => rfl
  | [v] =>
    simp only [ownV, cvE]
    by_cases h : chkV v = 0
    · have := chkV_kind h
      have e : (!scalarB v.kind) = decide (v.kind > 7) := by
        unfold scalarB
        have h1 : decide (v.kind ≥ 1) = true := by simp; omega
        rw [h1, Bool.true_and]
        by_cases h7 : v.kind ≤ 7
        · have : ¬ v.kind > 7 := by omega
          simp [h7, this]
        · have : v.kind > 7 := by omega
          simp [h7, this]
      rw [e]
    · have h' : (chkV v != 0) = true := by simp [h]
      rw [if_pos h', if_pos h']
  | v :: w :: r => rfl
theorem ownE_eq (e : Exp) (ha : e.args.length ≤ 68719476736) : ownE e = oneE e := by
  unfold ownE oneE
  rw [ownV_eq]
  have e2 : ((arityG e.op).2 == 0) = ((arityF e.op).2 == 0) := by
    unfold arityG
    split
    · rename_i h; rw [h]; decide
    · rfl
  have e1 : (arityG e.op).1 = (arityF e.op).1 := by
    unfold arityG
    split
    · rename_i h; rw [h]; decide
    · rfl
  have e3 : decide ((e.args.length : Int) > (arityG e.op).2) = (decide ((e.args.length : Int) > (arityF e.op).2) && e.op != 25) := by
    unfold arityG
    split
    · rename_i h
      have : ¬ (e.args.length : Int) > 4611686018427387904 := by omega
      simp [h, this]
    · rename_i h
      simp [h]
  rw [e1, e2, e3]
  generalize (decide (e.op < 1) || decide (e.op > 28)) = b0
  generalize (!pathedB e.op && e.text != []) = b1
  generalize (!scaledB e.op && e.int != 0) = b2
  generalize (e.op != 1 && decide ((e.value.length : Int) > 0)) = b3
  generalize ((arityF e.op).2 == 0 && decide ((e.args.length : Int) > 0)) = b4
  cases b0 <;> cases b1 <;> cases b2 <;> cases b3 <;> cases b4 <;> simp
end Go.Proofs
/- The law's own check of expressions and its list of paths. -/
set_option linter.unusedSimpArgs false
set_option linter.unusedVariables false
set_option maxRecDepth 10000
namespace Go.Proofs
open Go Av
theorem walk141 (k : Int) : PCon Tryz.prog 141 [.int .i64 k] (.tup [.d (.int .i64 (arityG k).1), .d (.int .i64 (arityG k).2)]) := by
  refine ok141.pcon (Nat.le_of_ble_eq_true rfl) (by simp [inTR, idsIn, idsInL]) ?_
  by_cases h1 : k = 1
  · subst h1
    have e : arityG 1 = (0, 0) := by decide
    rw [e]
    simp only [go_sem, ir141, Int.reduceBEq, Int.reduceEq, Nat.reduceAdd, Nat.reduceEqDiff, Nat.reduceBEq, Nat.reduceLeDiff, reduceCtorEq, ↓reduceIte]
  have b1 : (k == 1) = false := by simp [h1]
  by_cases h2 : k = 2
  · subst h2
    have e : arityG 2 = (0, 0) := by decide
    rw [e]
    simp only [go_sem, ir141, Int.reduceBEq, Int.reduceEq, Nat.reduceAdd, Nat.reduceEqDiff, Nat.reduceBEq, Nat.reduceLeDiff, reduceCtorEq, ↓reduceIte]
  have b2 : (k == 2) = false := by simp [h2]
  by_cases h22 : k = 22
  · subst h22
    have e : arityG 22 = (0, 0) := by decide
    rw [e]
    simp only [go_sem, ir141, Int.reduceBEq, Int.reduceEq, Nat.reduceAdd, Nat.reduceEqDiff, Nat.reduceBEq, Nat.reduceLeDiff, reduceCtorEq, ↓reduceIte]
  have b22 : (k == 22) = false := by simp [h22]
  by_cases h26 : k = 26
  · subst h26
    have e : arityG 26 = (0, 0) := by decide
    rw [e]
    simp only [go_sem, ir141, Int.reduceBEq, Int.reduceEq, Nat.reduceAdd, Nat.reduceEqDiff, Nat.reduceBEq, Nat.reduceLeDiff, reduceCtorEq, ↓reduceIte]
  have b26 : (k == 26) = false := by simp [h26]
  by_cases h3 : k = 3
  · subst h3
    have e : arityG 3 = (1, 1) := by decide
    rw [e]
    simp only [go_sem, ir141, Int.reduceBEq, Int.reduceEq, Nat.reduceAdd, Nat.reduceEqDiff, Nat.reduceBEq, Nat.reduceLeDiff, reduceCtorEq, ↓reduceIte]
  have b3 : (k == 3) = false := by simp [h3]
  by_cases h16 : k = 16
  · subst h16
    have e : arityG 16 = (1, 1) := by decide
    rw [e]
    simp only [go_sem, ir141, Int.reduceBEq, Int.reduceEq, Nat.reduceAdd, Nat.reduceEqDiff, Nat.reduceBEq, Nat.reduceLeDiff, reduceCtorEq, ↓reduceIte]
  have b16 : (k == 16) = false := by simp [h16]
  by_cases h18 : k = 18
  · subst h18
    have e : arityG 18 = (1, 1) := by decide
    rw [e]
    simp only [go_sem, ir141, Int.reduceBEq, Int.reduceEq, Nat.reduceAdd, Nat.reduceEqDiff, Nat.reduceBEq, Nat.reduceLeDiff, reduceCtorEq, ↓reduceIte]
  have b18 : (k == 18) = false := by simp [h18]
  by_cases h19 : k = 19
  · subst h19
    have e : arityG 19 = (1, 1) := by decide
    rw [e]
    simp only [go_sem, ir141, Int.reduceBEq, Int.reduceEq, Nat.reduceAdd, Nat.reduceEqDiff, Nat.reduceBEq, Nat.reduceLeDiff, reduceCtorEq, ↓reduceIte]
  have b19 : (k == 19) = false := by simp [h19]
  by_cases h20 : k = 20
  · subst h20
    have e : arityG 20 = (1, 1) := by decide
    rw [e]
    simp only [go_sem, ir141, Int.reduceBEq, Int.reduceEq, Nat.reduceAdd, Nat.reduceEqDiff, Nat.reduceBEq, Nat.reduceLeDiff, reduceCtorEq, ↓reduceIte]
  have b20 : (k == 20) = false := by simp [h20]
  by_cases h27 : k = 27
  · subst h27
    have e : arityG 27 = (1, 1) := by decide
    rw [e]
    simp only [go_sem, ir141, Int.reduceBEq, Int.reduceEq, Nat.reduceAdd, Nat.reduceEqDiff, Nat.reduceBEq, Nat.reduceLeDiff, reduceCtorEq, ↓reduceIte]
  have b27 : (k == 27) = false := by simp [h27]
  by_cases h28 : k = 28
  · subst h28
    have e : arityG 28 = (1, 1) := by decide
    rw [e]
    simp only [go_sem, ir141, Int.reduceBEq, Int.reduceEq, Nat.reduceAdd, Nat.reduceEqDiff, Nat.reduceBEq, Nat.reduceLeDiff, reduceCtorEq, ↓reduceIte]
  have b28 : (k == 28) = false := by simp [h28]
  by_cases h21 : k = 21
  · subst h21
    have e : arityG 21 = (3, 3) := by decide
    rw [e]
    simp only [go_sem, ir141, Int.reduceBEq, Int.reduceEq, Nat.reduceAdd, Nat.reduceEqDiff, Nat.reduceBEq, Nat.reduceLeDiff, reduceCtorEq, ↓reduceIte]
  have b21 : (k == 21) = false := by simp [h21]
  by_cases h24 : k = 24
  · subst h24
    have e : arityG 24 = (3, 3) := by decide
    rw [e]
    simp only [go_sem, ir141, Int.reduceBEq, Int.reduceEq, Nat.reduceAdd, Nat.reduceEqDiff, Nat.reduceBEq, Nat.reduceLeDiff, reduceCtorEq, ↓reduceIte]
  have b24 : (k == 24) = false := by simp [h24]
  by_cases h25 : k = 25
  · subst h25
    have e : arityG 25 = (2, 4611686018427387904) := by decide
    rw [e]
    simp only [go_sem, ir141, Int.reduceBEq, Int.reduceEq, Nat.reduceAdd, Nat.reduceEqDiff, Nat.reduceBEq, Nat.reduceLeDiff, reduceCtorEq, ↓reduceIte]
  have b25 : (k == 25) = false := by simp [h25]
  have e : arityG k = (2, 2) := by simp [arityG, arityF, h1, h2, h22, h26, h3, h16, h18, h19, h20, h27, h28, h21, h24, h25]
  rw [e]
  simp only [go_sem, ir141, b1, b2, b22, b26, b3, b16, b18, b19, b20, b27, b28, b21, b24, b25, Nat.reduceAdd, Nat.reduceEqDiff, Nat.reduceBEq, Nat.reduceLeDiff, reduceCtorEq, ↓reduceIte]
theorem walk71 (k : Int) : PCon Tryz.prog 71 [.int .i64 k] (.d (.bool (pathedB k))) := by
  refine ok71.pcon (Nat.le_of_ble_eq_true rfl) trivial ?_
  simp only [go_sem, ir71, Nat.reduceAdd, Nat.reduceEqDiff, Nat.reduceBEq, Nat.reduceLeDiff, reduceCtorEq, ↓reduceIte]
  refine scQ_pure (k == 22) (fun _ => ?_) ?_
  · simp only [go_sem, Nat.reduceAdd, Nat.reduceEqDiff, Nat.reduceBEq, Nat.reduceLeDiff, reduceCtorEq, ↓reduceIte]
  simp only [go_sem, Nat.reduceAdd, Nat.reduceEqDiff, Nat.reduceBEq, Nat.reduceLeDiff, reduceCtorEq, ↓reduceIte]
  refine scQ_pure (k == 26) (fun _ => ?_) ?_
  · simp only [go_sem, Nat.reduceAdd, Nat.reduceEqDiff, Nat.reduceBEq, Nat.reduceLeDiff, reduceCtorEq, ↓reduceIte]
  simp only [go_sem, pathedB, Nat.reduceAdd, Nat.reduceEqDiff, Nat.reduceBEq, Nat.reduceLeDiff, reduceCtorEq, ↓reduceIte]
theorem walk142 (k : Int) : PCon Tryz.prog 142 [.int .i64 k] (.d (.bool (scaledB k))) := by
  refine ok142.pcon (Nat.le_of_ble_eq_true rfl) trivial ?_
  simp only [go_sem, ir142, Nat.reduceAdd, Nat.reduceEqDiff, Nat.reduceBEq, Nat.reduceLeDiff, reduceCtorEq, ↓reduceIte]
  refine scQ_pure (k == 26) (fun _ => ?_) ?_
  · simp only [go_sem, Nat.reduceAdd, Nat.reduceEqDiff, Nat.reduceBEq, Nat.reduceLeDiff, reduceCtorEq, ↓reduceIte]
  simp only [go_sem, scaledB, Nat.reduceAdd, Nat.reduceEqDiff, Nat.reduceBEq, Nat.reduceLeDiff, reduceCtorEq, ↓reduceIte]

theorem walk143 (l : List Part) (hl : l.length ≤ 68719476736) : PCon Tryz.prog 143 [.list 3 (l.map encP)] (.d (.int .i64 (l.countP fun p => p.kind == 3))) := by
  refine ok143.pcon (Nat.le_of_ble_eq_true rfl) trivial ?_
  simp only [go_sem, ir143, Nat.reduceAdd, Nat.reduceEqDiff, Nat.reduceBEq, Nat.reduceLeDiff, reduceCtorEq, ↓reduceIte]
  refine wpc_loop (fun r s => ∃ (k : Nat), k ≤ l.length ∧ r = l.length - k ∧
    s = ⟨[(0, .d (.list 3 (l.map encP))), (3, .d (.int .i64 ((l.take k).countP fun p => p.kind == 3))), (4, .d (.int .i64 k))], []⟩) ?_ ?_
  · exact ⟨_, _, Wk.refl _, 0, Nat.zero_le _, rfl, rfl⟩
  · rintro r s ⟨k, hk, rfl, rfl⟩
    have hcl : (l.take k).countP (fun p => p.kind == 3) ≤ 68719476736 := Nat.le_trans List.countP_le_length (by simp; omega)
    by_cases hlt : k < l.length
    · have hx := nth_encP hlt
      have hd : decide ((k : Int) < (l.length : Int)) = true := by simp; omega
      have hc : (l.take (k + 1)).countP (fun p => p.kind == 3) = (l.take k).countP (fun p => p.kind == 3) + if l[k].kind == 3 then 1 else 0 := by
        rw [List.take_succ_eq_append_getElem hlt, List.countP_append, List.countP_singleton]
      simp only [go_sem, hx, hd, Int.toNat_natCast, List.length_map, Nat.reduceAdd, Nat.reduceEqDiff, Nat.reduceBEq, Nat.reduceLeDiff, reduceCtorEq, ↓reduceIte]
      refine ⟨by omega, by decide, fun h => ?_, fun h => ?_⟩
      · refine ⟨l.length - (k + 1), _, by omega, Wk.less ?_, k + 1, by omega, rfl, rfl⟩
        rw [h, if_pos rfl] at hc
        have hw : IntKind.i64.wrap (((l.take k).countP (fun p => p.kind == 3) : Int) + 1) = (((l.take (k + 1)).countP (fun p => p.kind == 3) : Nat) : Int) := by rw [wrap64 (by omega) (by omega), hc]; omega
        simp only [go_sem, hw, wrap64s k (by omega), Nat.reduceAdd, Nat.reduceEqDiff, Nat.reduceBEq, Nat.reduceLeDiff, reduceCtorEq, ↓reduceIte]
      · refine ⟨l.length - (k + 1), _, by omega, Wk.less ?_, k + 1, by omega, rfl, rfl⟩
        rw [h, if_neg (by simp), Nat.add_zero] at hc
        simp only [go_sem, hc, wrap64s k (by omega), Nat.reduceAdd, Nat.reduceEqDiff, Nat.reduceBEq, Nat.reduceLeDiff, reduceCtorEq, ↓reduceIte]
    · have hd : decide ((k : Int) < (l.length : Int)) = false := by simp; omega
      obtain rfl : k = l.length := by omega
      simp only [go_sem, hd, List.take_length, List.length_map, Nat.reduceAdd, Nat.reduceEqDiff, Nat.reduceBEq, Nat.reduceLeDiff, reduceCtorEq, ↓reduceIte]
end Go.Proofs
/- The law's own test of one node of an expression. -/
set_option linter.unusedSimpArgs false
set_option linter.unusedVariables false
set_option maxRecDepth 10000
namespace Go.Proofs
open Go Av

theorem countP_all (l : List Part) : decide (((l.countP fun p => p.kind == 3 : Nat) : Int) > 0) = l.any fun p => p.kind == 3 := by
  rw [Bool.eq_iff_iff, decide_eq_true_eq, List.any_eq_true]
  constructor
  · intro h
    exact List.countP_pos_iff.1 (by omega)
  · intro h
    have := List.countP_pos_iff.2 h
    omega
theorem walk70 (e : Exp) : PCon Tryz.prog 70 [encE e] (.d (.int .i64 (ownE e))) := by
  refine PCon.of_fits ok70.has fun hfit => ?_
  obtain ⟨ft, fv, fa, _⟩ := fits_E (hfit _ (List.mem_singleton.2 rfl))
  refine ok70.pcon (Nat.le_of_ble_eq_true rfl) trivial ?_
  generalize hR : ownE e = R
  rw [encE_eq]
  simp only [go_sem, ir70, Nat.reduceAdd, Nat.reduceEqDiff, Nat.reduceBEq, Nat.reduceLeDiff, reduceCtorEq, ↓reduceIte]
  refine wps_call rfl ((walk141 e.op).call (by simp [pureR])) trivial ?_
  simp only [go_sem, Nat.reduceAdd, Nat.reduceEqDiff, Nat.reduceBEq, Nat.reduceLeDiff, reduceCtorEq, ↓reduceIte]
  refine scQ_pure (decide (e.op > 28)) (fun _ => ?_) ?_
  · simp only [go_sem, Nat.reduceAdd, Nat.reduceEqDiff, Nat.reduceBEq, Nat.reduceLeDiff, reduceCtorEq, ↓reduceIte]
  simp only [go_sem, Nat.reduceAdd, Nat.reduceEqDiff, Nat.reduceBEq, Nat.reduceLeDiff, reduceCtorEq, ↓reduceIte]
  refine ⟨fun h1 => ?_, fun h1 => wps_call rfl ((walk71 e.op).call trivial) trivial ?_⟩
  · rw [← hR, ownE, if_pos h1]
  rw [ownE, if_neg (by simp only [h1]; decide)] at hR
  simp only [go_sem, Nat.reduceAdd, Nat.reduceEqDiff, Nat.reduceBEq, Nat.reduceLeDiff, reduceCtorEq, ↓reduceIte]
  refine scQ_pure (e.text != []) (fun _ => ?_) ?_
  · simp only [go_sem, Nat.reduceAdd, Nat.reduceEqDiff, Nat.reduceBEq, Nat.reduceLeDiff, reduceCtorEq, ↓reduceIte]
    try rfl
  simp only [go_sem, Nat.reduceAdd, Nat.reduceEqDiff, Nat.reduceBEq, Nat.reduceLeDiff, reduceCtorEq, ↓reduceIte]
  refine scQ_pure (!scaledB e.op && e.int != 0) (fun _ => ?_) ?_
  · simp only [go_sem, Nat.reduceAdd, Nat.reduceEqDiff, Nat.reduceBEq, Nat.reduceLeDiff, reduceCtorEq, ↓reduceIte]
    refine wps_call rfl ((walk142 _).call trivial) trivial ?_
    simp only [go_sem, Nat.reduceAdd, Nat.reduceEqDiff, Nat.reduceBEq, Nat.reduceLeDiff, reduceCtorEq, ↓reduceIte]
    refine scQ_pure (e.int != 0) (fun _ => ?_) ?_
    · simp only [go_sem, Nat.reduceAdd, Nat.reduceEqDiff, Nat.reduceBEq, Nat.reduceLeDiff, reduceCtorEq, ↓reduceIte]
    simp only [go_sem, Nat.reduceAdd, Nat.reduceEqDiff, Nat.reduceBEq, Nat.reduceLeDiff, reduceCtorEq, ↓reduceIte]
  simp only [go_sem, Nat.reduceAdd, Nat.reduceEqDiff, Nat.reduceBEq, Nat.reduceLeDiff, reduceCtorEq, ↓reduceIte]
  refine scQ_pure (e.op != 1 && decide ((e.value.length : Int) > 0)) (fun _ => ?_) ?_
  · simp only [go_sem, Nat.reduceAdd, Nat.reduceEqDiff, Nat.reduceBEq, Nat.reduceLeDiff, reduceCtorEq, ↓reduceIte]
    refine scQ_pure (decide ((e.value.length : Int) > 0)) (fun _ => ?_) ?_
    · simp only [go_sem, List.length_map, Nat.reduceAdd, Nat.reduceEqDiff, Nat.reduceBEq, Nat.reduceLeDiff, reduceCtorEq, ↓reduceIte]
    simp only [go_sem, Nat.reduceAdd, Nat.reduceEqDiff, Nat.reduceBEq, Nat.reduceLeDiff, reduceCtorEq, ↓reduceIte]
  simp only [go_sem, Nat.reduceAdd, Nat.reduceEqDiff, Nat.reduceBEq, Nat.reduceLeDiff, reduceCtorEq, ↓reduceIte]
  refine scQ_pure ((arityG e.op).2 == 0 && decide ((e.args.length : Int) > 0)) (fun _ => ?_) ?_
  · simp only [go_sem, Nat.reduceAdd, Nat.reduceEqDiff, Nat.reduceBEq, Nat.reduceLeDiff, reduceCtorEq, ↓reduceIte]
    refine scQ_pure (decide ((e.args.length : Int) > 0)) (fun _ => ?_) ?_
    · simp only [go_sem, List.length_map, Nat.reduceAdd, Nat.reduceEqDiff, Nat.reduceBEq, Nat.reduceLeDiff, reduceCtorEq, ↓reduceIte]
    simp only [go_sem, Nat.reduceAdd, Nat.reduceEqDiff, Nat.reduceBEq, Nat.reduceLeDiff, reduceCtorEq, ↓reduceIte]
  simp only [go_sem, Nat.reduceAdd, Nat.reduceEqDiff, Nat.reduceBEq, Nat.reduceLeDiff, reduceCtorEq, ↓reduceIte]
  refine ⟨fun h2 => ?_, fun h2 => ?_⟩
  · rw [if_pos h2] at hR
    rw [hR]
  rw [if_neg (by rw [h2]; exact Bool.false_ne_true)] at hR
  simp only [go_sem, List.length_map, Nat.reduceAdd, Nat.reduceEqDiff, Nat.reduceBEq, Nat.reduceLeDiff, reduceCtorEq, ↓reduceIte]
  refine ⟨fun h3 => ?_, fun h3 => ⟨fun h4 => ?_, fun h4 => ?_⟩⟩
  · rw [if_pos h3] at hR
    rw [hR]
  · rw [if_neg (by rw [h3]; exact Bool.false_ne_true), if_pos h4] at hR
    rw [hR]
  rw [if_neg (by rw [h3]; exact Bool.false_ne_true), if_neg (by rw [h4]; exact Bool.false_ne_true)] at hR
  refine ⟨fun h5 => ?_, fun h5 => ?_⟩
  · rw [if_pos h5] at hR
    have h51 : e.op = 1 := by simpa using h5
    have p1 : pathedB e.op = false := by rw [h51]; rfl
    have p2 : scaledB e.op = false := by rw [h51]; rfl
    have c71 := (walk71 e.op).call trivial
    have c142 := (walk142 e.op).call trivial
    generalize hV : e.value = vs at *
    refine ⟨fun q0 => ?_, fun q0 => ⟨fun q1 => ?_, fun q1 => ?_⟩⟩
    · obtain rfl : vs = [] := by
        cases vs with
        | nil => rfl
        | cons a r => simp at q0; omega
      simp only [ownV] at hR
      rw [← hR]
    · have hR' : R = 3 := by
        match vs, hR, q1 with
        | [], _, q1 => simp at q1
        | [v], _, q1 => simp at q1
        | v :: w :: r, hR, _ => exact hR.symm
      rw [hR']
    · obtain ⟨v, rfl⟩ : ∃ v, vs = [v] := by
        match vs, q0, q1 with
        | [], q0, _ => simp at q0
        | [v], _, _ => exact ⟨v, rfl⟩
        | v :: w :: r, _, q1 => simp at q1; omega
      have hx : nth [encV v] 0 = .agg [.int .i64 v.kind, .int .i64 v.int, .int .i64 v.scale, .str v.text, .list 6 (v.list.map encV), .list 7 (v.fields.map encF)] := nth_encV (xs := [v]) (k := 0) (by simp)
      have c15 := (walk15 v).call trivial
      rw [encV_eq] at c15
      simp only [List.map_cons, List.map_nil, go_sem, hx, Int.toNat_zero, List.length_cons, List.length_nil, Nat.reduceAdd, Nat.reduceEqDiff, Nat.reduceBEq, Nat.reduceLeDiff, reduceCtorEq, ↓reduceIte]
      refine ⟨by omega, wps_call rfl c15 trivial ?_⟩
      simp only [go_sem, Nat.reduceAdd, Nat.reduceEqDiff, Nat.reduceBEq, Nat.reduceLeDiff, reduceCtorEq, ↓reduceIte]
      simp only [ownV] at hR
      refine ⟨fun h6 => ?_, fun h6 => ?_⟩
      · rw [if_pos h6] at hR
        rw [hR]
      rw [if_neg (by rw [h6]; exact Bool.false_ne_true)] at hR
      simp only [List.map_cons, List.map_nil, go_sem, hx, Int.toNat_zero, List.length_cons, List.length_nil, Nat.reduceAdd, Nat.reduceEqDiff, Nat.reduceBEq, Nat.reduceLeDiff, reduceCtorEq, ↓reduceIte]
      refine ⟨by omega, by decide, fun h7 => ?_, fun h7 => ?_⟩
      · rw [if_pos h7] at hR
        rw [hR]
      rw [if_neg (by rw [h7]; exact Bool.false_ne_true)] at hR
      refine wps_call rfl c71 trivial ?_
      simp only [go_sem, p1, Nat.reduceAdd, Nat.reduceEqDiff, Nat.reduceBEq, Nat.reduceLeDiff, reduceCtorEq, ↓reduceIte]
      refine wps_call rfl c142 trivial ?_
      simp only [go_sem, p2, Nat.reduceAdd, Nat.reduceEqDiff, Nat.reduceBEq, Nat.reduceLeDiff, reduceCtorEq, ↓reduceIte]
      rw [hR]
  rw [if_neg (by rw [h5]; exact Bool.false_ne_true)] at hR
  refine wps_call rfl ((walk71 _).call trivial) trivial ?_
  simp only [go_sem, Nat.reduceAdd, Nat.reduceEqDiff, Nat.reduceBEq, Nat.reduceLeDiff, reduceCtorEq, ↓reduceIte]
  refine ⟨fun hp => ?_, fun hp => ?_⟩
  · rw [hp] at hR
    simp only [Bool.true_and] at hR
    refine wps_call rfl ((walk80 e.text ft).call (by simp [pureR])) trivial ?_
    simp only [go_sem, Nat.reduceAdd, Nat.reduceEqDiff, Nat.reduceBEq, Nat.reduceLeDiff, reduceCtorEq, ↓reduceIte]
    refine ⟨fun h7 => ?_, fun h7 => ?_⟩
    · rw [if_pos h7] at hR
      rw [hR]
    rw [if_neg (by rw [h7]; exact Bool.false_ne_true)] at hR
    refine wpsL_call rfl ((walk143 _ (parseS_len16 e.text)).call trivial) trivial ?_
    simp only [go_sem, countP_all, Nat.reduceAdd, Nat.reduceEqDiff, Nat.reduceBEq, Nat.reduceLeDiff, reduceCtorEq, ↓reduceIte]
    refine ⟨rfl, fun h8 => ?_, fun h8 => ?_⟩
    · rw [if_pos h8] at hR
      rw [hR]
    rw [if_neg (by rw [h8]; exact Bool.false_ne_true)] at hR
    refine wps_call rfl ((walk142 _).call trivial) trivial ?_
    simp only [go_sem, Nat.reduceAdd, Nat.reduceEqDiff, Nat.reduceBEq, Nat.reduceLeDiff, reduceCtorEq, ↓reduceIte]
    refine scQ_pure (decide (e.int < 0) || decide (e.int > 12)) (fun _ => ?_) ?_
    · simp only [go_sem, Nat.reduceAdd, Nat.reduceEqDiff, Nat.reduceBEq, Nat.reduceLeDiff, reduceCtorEq, ↓reduceIte]
      refine scQ_pure (decide (e.int > 12)) (fun _ => ?_) ?_
      · simp only [go_sem, Nat.reduceAdd, Nat.reduceEqDiff, Nat.reduceBEq, Nat.reduceLeDiff, reduceCtorEq, ↓reduceIte]
      simp only [go_sem, Nat.reduceAdd, Nat.reduceEqDiff, Nat.reduceBEq, Nat.reduceLeDiff, reduceCtorEq, ↓reduceIte]
    simp only [go_sem, Nat.reduceAdd, Nat.reduceEqDiff, Nat.reduceBEq, Nat.reduceLeDiff, reduceCtorEq, ↓reduceIte]
    refine ⟨fun h9 => ?_, fun h9 => ?_⟩
    · rw [if_pos h9] at hR
      rw [hR]
    · rw [if_neg (by rw [h9]; exact Bool.false_ne_true)] at hR
      rw [hR]
  · rw [hp] at hR
    simp only [Bool.false_and, Bool.false_eq_true, ↓reduceIte] at hR
    refine wps_call rfl ((walk142 _).call trivial) trivial ?_
    simp only [go_sem, Nat.reduceAdd, Nat.reduceEqDiff, Nat.reduceBEq, Nat.reduceLeDiff, reduceCtorEq, ↓reduceIte]
    refine scQ_pure (decide (e.int < 0) || decide (e.int > 12)) (fun _ => ?_) ?_
    · simp only [go_sem, Nat.reduceAdd, Nat.reduceEqDiff, Nat.reduceBEq, Nat.reduceLeDiff, reduceCtorEq, ↓reduceIte]
      refine scQ_pure (decide (e.int > 12)) (fun _ => ?_) ?_
      · simp only [go_sem, Nat.reduceAdd, Nat.reduceEqDiff, Nat.reduceBEq, Nat.reduceLeDiff, reduceCtorEq, ↓reduceIte]
      simp only [go_sem, Nat.reduceAdd, Nat.reduceEqDiff, Nat.reduceBEq, Nat.reduceLeDiff, reduceCtorEq, ↓reduceIte]
    simp only [go_sem, Nat.reduceAdd, Nat.reduceEqDiff, Nat.reduceBEq, Nat.reduceLeDiff, reduceCtorEq, ↓reduceIte]
    refine ⟨fun h9 => ?_, fun h9 => ?_⟩
    · rw [if_pos h9] at hR
      rw [hR]
    · rw [if_neg (by rw [h9]; exact Bool.false_ne_true)] at hR
      rw [hR]
end Go.Proofs
