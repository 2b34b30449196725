/- The plain law of ExprCalculates. -/
import Derived.Test.YtholoaojlcnacaaGreatDoorCaC
import Derived.Test.YtholoaojlcnacaaGreatDoorKernD
set_option linter.unusedVariables false
set_option linter.unusedSimpArgs false
set_option linter.unusedSectionVars false
set_option linter.unusedSimpArgs false
set_option linter.unusedVariables false
set_option maxRecDepth 10000
namespace Go.Proofs
open Go Av

theorem chkN_of {p : Int × Int} (h0 : 0 ≤ p.2) (h1 : p.2 ≤ 12) (h2 : -999999999999999 ≤ p.1) (h3 : p.1 ≤ 999999999999999) : chkN p = 0 := by
  unfold chkN
  have : absW p.1 ≤ 999999999999999 := by
    unfold absW
    rw [wrap64 (by omega) (by omega)]
    omega
  rw [if_neg]
  simp only [Bool.or_eq_true, decide_eq_true_eq, not_or]
  omega
theorem chkN_eq (a : Int × Int) : chkN a = fstE [btw a.1 (-999999999999999) 999999999999999, btw a.2 0 12] := by
  by_cases h : 0 ≤ a.2 ∧ a.2 ≤ 12 ∧ -999999999999999 ≤ a.1 ∧ a.1 ≤ 999999999999999
  · rw [chkN_of h.1 h.2.1 h.2.2.1 h.2.2.2]
    have b1 : btw a.1 (-999999999999999) 999999999999999 = 0 := by unfold btw; rw [if_neg]; simp; omega
    have b2 : btw a.2 0 12 = 0 := by unfold btw; rw [if_neg]; simp; omega
    rw [b1, b2]; rfl
  · have hn : chkN a ≠ 0 := fun e => h ⟨(chkN_ok e).1, (chkN_ok e).2.1, (chkN_ok e).2.2.1, (chkN_ok e).2.2.2⟩
    have h2 : chkN a = 2 := by
      unfold chkN at hn ⊢
      split
      · rfl
      · rename_i q; rw [if_neg q] at hn; exact absurd rfl hn
    rw [h2]
    by_cases h3 : -999999999999999 ≤ a.1 ∧ a.1 ≤ 999999999999999
    · have b1 : btw a.1 (-999999999999999) 999999999999999 = 0 := by unfold btw; rw [if_neg]; simp; omega
      have b2 : btw a.2 0 12 = 2 := by unfold btw; rw [if_pos]; simp; omega
      rw [b1, b2]; rfl
    · have b1 : btw a.1 (-999999999999999) 999999999999999 = 2 := by unfold btw; rw [if_pos]; simp; omega
      rw [b1]; rfl
theorem null_cst (a : Int × Int) : nullV (cstV a) = false := by simp [nullV, cstV, Val.kind]
theorem ok_cst (a : Int × Int) : okV (cstV a) := by simp [okV, cstV, okVs, okFs]
theorem chkV_cst (a : Int × Int) : chkV (cstV a) = chkN a := by
  rw [chkN_eq]
  have hE : chkE 1 1 (cstV a) = fstE [btw a.1 (-999999999999999) 999999999999999, btw a.2 0 12] := by
    unfold chkE
    rw [null_cst]
    simp [usesV, useN, useT, useL, ruleE, cstV, Val.kind, Val.int, Val.scale, Val.text, Val.list, Val.fields]
  unfold chkV visF
  have e7 : chkE (0 + 1) (8 - ((7 : Nat) : Int)) (cstV a) = fstE [btw a.1 (-999999999999999) 999999999999999, btw a.2 0 12] := hE
  rw [e7]
  split
  · rfl
  · rename_i h
    simp only [ne_eq, Decidable.not_not] at h
    rw [h]
    simp [partsV, cstV, Val.kind, foldV]
/-- the constant as an expression -/
def cstE (a : Int × Int) : Exp := .mk 1 0 [] [cstV a] []
theorem one_cst (a : Int × Int) : oneE (cstE a) = chkN a := by
  have : cvE [cstV a] = chkN a := by
    show (if chkV (cstV a) != 0 then chkV (cstV a) else if !scalarB (cstV a).kind then 18 else 0) = chkN a
    rw [chkV_cst]
    have : scalarB (cstV a).kind = true := rfl
    rw [this]
    by_cases h : chkN a = 0
    · simp [h]
    · simp [h]
  rw [← this]
  unfold oneE
  simp [cstE, Exp.op, Exp.int, Exp.text, Exp.value, Exp.args, pathedB, scaledB, arityF]
def binE (op n : Int) (a b : Int × Int) : Exp := .mk op n [] [] [cstE a, cstE b]
theorem eF_cst (k : Nat) (n : Int) (hn : n ≠ 256) (a : Int × Int) : eF (k + 1) n (cstE a) = (chkN a, n + 1) := by
  unfold eF
  rw [if_neg hn, one_cst]
  split
  · rfl
  · rename_i h
    simp only [ne_eq, Decidable.not_not] at h
    rw [h]; rfl
theorem chk_bin (op n : Int) (a b : Int × Int) (h1 : oneE (binE op n a b) = 0) : chkX (binE op n a b) = fstN [a, b] := by
  unfold chkX eF
  rw [if_neg (by decide), if_neg (by simpa using h1)]
  simp only [binE, Exp.args, foldE]
  rw [eF_cst 6 (0 + 1) (by decide) a]
  simp only
  rw [eF_cst 6 (0 + 1 + 1) (by decide) b]
  simp only [fstN]
  split
  · rfl
  · split <;> rfl
theorem one_12 (a b : Int × Int) : oneE (binE 12 0 a b) = 0 := by
  unfold oneE; simp [binE, Exp.op, Exp.int, Exp.text, Exp.value, Exp.args, pathedB, scaledB, arityF]
theorem one_8 (a b : Int × Int) : oneE (binE 8 0 a b) = 0 := by
  unfold oneE; simp [binE, Exp.op, Exp.int, Exp.text, Exp.value, Exp.args, pathedB, scaledB, arityF]
theorem one_15 (s : Int) (a b : Int × Int) : oneE (binE 15 s a b) = if decide (s < 0) || decide (s > 12) then 2 else 0 := by
  unfold oneE
  by_cases q1 : s < 0 <;> by_cases q2 : s > 12 <;> simp [binE, Exp.op, Exp.int, Exp.text, Exp.value, Exp.args, pathedB, scaledB, arityF, q1, q2] <;> omega
theorem chk_15 (s : Int) (a b : Int × Int) : chkX (binE 15 s a b) = if decide (s < 0) || decide (s > 12) then 2 else fstN [a, b] := by
  by_cases h : (decide (s < 0) || decide (s > 12)) = true
  · have := one_15 s a b
    rw [if_pos h] at this ⊢
    unfold chkX eF
    rw [if_neg (by decide), if_pos (by rw [this]; decide), this]
  · rw [if_neg h]
    exact chk_bin _ _ _ _ (by rw [one_15, if_neg h])
end Go.Proofs
/- ExprCalculates: the three answers, the walk. -/
set_option linter.unusedSimpArgs false
set_option linter.unusedVariables false
set_option maxRecDepth 10000
namespace Go.Proofs
open Go Av

def recV0 : Val := .mk 9 0 0 [] [] []
theorem ev_cst (a : Int × Int) (env : Val) : MCon 54 [encE (cstE a)] env 0 (.d (encV (cstV a))) 0 := ev_1 0 [] (cstV a) [] [] (ok_cst a) env
theorem need_cst (a : Int × Int) : needV (cstV a) 0 = cstV a ∧ needE (cstV a) 0 = 0 := by simp [needV, needE, null_cst]
theorem isN_cst (a : Int × Int) : isN (cstV a) = true := rfl
theorem ofN_cst (a : Int × Int) : ofN (cstV a) = a := rfl
def decV (n : Int × Int) (er : Int) : Val := if er != 0 then zeroV else .mk 3 n.1 n.2 [] [] []
theorem ari_12 (a b : Int × Int) : ariV 12 0 (cstV a) (cstV b) 0 = (decV (addN a b).1 (addN a b).2, (addN a b).2) := by
  unfold ariV
  rw [isN_cst, isN_cst, ofN_cst, ofN_cst]
  have : opN 12 0 a b = addN a b := rfl
  rw [this]
  have k : ((cstV a).kind == 2) = false := rfl
  simp only [k, Bool.false_and, Bool.and_false, Bool.not_true, Bool.or_self, bne_self_eq_false, Bool.false_eq_true, ↓reduceIte]
  refine Prod.ext rfl ?_
  simp only [numE, failE]
  by_cases h : (addN a b).2 = 0 <;> simp [h]
theorem ari_15 (s : Int) (a b : Int × Int) : ariV 15 s (cstV a) (cstV b) 0 = (decV (divN a b s).1 (divN a b s).2, (divN a b s).2) := by
  unfold ariV
  rw [isN_cst, isN_cst, ofN_cst, ofN_cst]
  have : opN 15 s a b = divN a b s := rfl
  rw [this]
  have k : ((cstV a).kind == 2) = false := rfl
  simp only [k, Bool.false_and, Bool.and_false, Bool.not_true, Bool.or_self, bne_self_eq_false, Bool.false_eq_true, ↓reduceIte]
  refine Prod.ext rfl ?_
  simp only [numE, failE]
  by_cases h : (divN a b s).2 = 0 <;> simp [h]
theorem ev_add (a b : Int × Int) (env : Val) : MCon 54 [encE (binE 12 0 a b)] env 0 (.d (encV (decV (addN a b).1 (addN a b).2))) (addN a b).2 := by
  have h := ev_A12 0 [] [] (cstE a) (cstE b) env (cstV a) (cstV b) 0 0 (ev_cst a env) (by rw [(need_cst a).2]; exact ev_cst b env)
  rw [(need_cst a).1, (need_cst b).1, (need_cst b).2, ari_12] at h
  exact h
theorem ev_div (s : Int) (a b : Int × Int) (env : Val) : MCon 54 [encE (binE 15 s a b)] env 0 (.d (encV (decV (divN a b s).1 (divN a b s).2))) (divN a b s).2 := by
  have h := ev_A15 s [] [] (cstE a) (cstE b) env (cstV a) (cstV b) 0 0 (ev_cst a env) (by rw [(need_cst a).2]; exact ev_cst b env)
  rw [(need_cst a).1, (need_cst b).1, (need_cst b).2, ari_15] at h
  exact h
theorem cpr_cst (a b : Int × Int) : cprM (cstV a) (cstV b) 0 = cprN a b := by
  unfold cprM
  rw [isN_cst, isN_cst, ofN_cst, ofN_cst]
  simp only [Bool.and_self, bne_self_eq_false, Bool.false_eq_true, ↓reduceIte]
  refine Prod.ext rfl ?_
  simp only [failE]
  by_cases h : (cprN a b).2 = 0 <;> simp [h]
theorem ev_less (a b : Int × Int) (env : Val) : MCon 54 [encE (binE 8 0 a b)] env 0 (.d (encV (boolV (decide ((cprN a b).1 < 0))))) (cprN a b).2 := by
  have h := ev_R8 0 [] [] (cstE a) (cstE b) env (cstV a) (cstV b) 0 0 (ev_cst a env) (by rw [(need_cst a).2]; exact ev_cst b env)
  rw [(need_cst a).1, (need_cst b).1, (need_cst b).2, cpr_cst] at h
  exact h
theorem ok_dec (n : Int × Int) (er : Int) : okV (decV n er) := by unfold decV zeroV; split <;> simp [okV, okVs, okFs]
theorem ok_bool (b : Bool) : okV (boolV b) := by cases b <;> simp [okV, okVs, okFs, boolV]

/-- the three answers -/
noncomputable def sumR (a b : Int × Int) : Val × Int := evalR (chkX (binE 12 0 a b)) 9 (decV (addN a b).1 (addN a b).2) (addN a b).2
noncomputable def quoR (s : Int) (a b : Int × Int) : Val × Int := evalR (chkX (binE 15 s a b)) 9 (decV (divN a b s).1 (divN a b s).2) (divN a b s).2
noncomputable def lesR (a b : Int × Int) : Bool × Int := condR (evalR (chkX (binE 8 0 a b)) 9 (boolV (decide ((cprN a b).1 < 0))) (cprN a b).2)
theorem walk_sum (a b : Int × Int) : PCon Tryz.prog 18 [encE (binE 12 0 a b), encV recV0] (.tup [.d (encV (sumR a b).1), .d (.int .i64 (sumR a b).2)]) :=
  walk18 _ recV0 _ _ (ok_dec _ _) (ev_add a b recV0)
theorem walk_quo (s : Int) (a b : Int × Int) : PCon Tryz.prog 18 [encE (binE 15 s a b), encV recV0] (.tup [.d (encV (quoR s a b).1), .d (.int .i64 (quoR s a b).2)]) :=
  walk18 _ recV0 _ _ (ok_dec _ _) (ev_div s a b recV0)
theorem walk_les (a b : Int × Int) : PCon Tryz.prog 19 [encE (binE 8 0 a b), encV recV0] (.tup [.d (.bool (lesR a b).1), .d (.int .i64 (lesR a b).2)]) :=
  walk19 _ recV0 _ _ (ok_bool _) (ev_less a b recV0)
end Go.Proofs
/- ExprCalculates: the walk of the law. -/
set_option linter.unusedSimpArgs false
set_option linter.unusedVariables false
set_option maxRecDepth 10000
namespace Go.Proofs
open Go Av

theorem fst2 {a b : Int × Int} (h : fstN [a, b] ≠ 0) : fstN [a, b] = 2 := by
  have h2 : ∀ p, chkN p ≠ 0 → chkN p = 2 := by
    intro p hp
    unfold chkN at hp ⊢
    split
    · rfl
    · rename_i q; rw [if_neg q] at hp; exact absurd rfl hp
  simp only [fstN] at h ⊢
  split
  · rename_i q; exact h2 _ q
  · rename_i q
    rw [if_neg q] at h
    split
    · rename_i q2; exact h2 _ q2
    · rename_i q2; rw [if_neg q2] at h; exact absurd rfl h
theorem sum_bad {a b : Int × Int} (h : fstN [a, b] ≠ 0) : sumR a b = (zeroV, 2) := by
  unfold sumR evalR
  rw [chk_bin _ _ _ _ (one_12 a b), fst2 h]; rfl
theorem les_bad {a b : Int × Int} (h : fstN [a, b] ≠ 0) : lesR a b = (false, 2) := by
  unfold lesR evalR
  rw [chk_bin _ _ _ _ (one_8 a b), fst2 h]; rfl
theorem quo_bad {a b : Int × Int} (s : Int) (h : fstN [a, b] ≠ 0) : quoR s a b = (zeroV, 2) := by
  unfold quoR evalR
  rw [chk_15, fst2 h]
  simp
theorem sum_ok {a b : Int × Int} (h : fstN [a, b] = 0) : (sumR a b).2 = (addN a b).2 ∧ ((addN a b).2 = 0 → (sumR a b).1 = .mk 3 (addN a b).1.1 (addN a b).1.2 [] [] []) := by
  unfold sumR evalR
  rw [chk_bin _ _ _ _ (one_12 a b), h]
  by_cases q : (addN a b).2 = 0 <;> simp [q, decV]
theorem cpr_ok {a b : Int × Int} (h : fstN [a, b] = 0) : (cprN a b).2 = 0 := by
  unfold cprN; rw [if_neg (by simp [h])]
theorem les_ok {a b : Int × Int} (h : fstN [a, b] = 0) : lesR a b = (decide ((cprN a b).1 < 0), 0) := by
  unfold lesR evalR
  rw [chk_bin _ _ _ _ (one_8 a b), h, cpr_ok h]
  generalize decide ((cprN a b).1 < 0) = B
  cases B <;> rfl
theorem quo_ok {a b : Int × Int} (s : Int) (h : fstN [a, b] = 0) : (quoR s a b).2 = (divN a b s).2 ∧ ((divN a b s).2 = 0 → (quoR s a b).1 = .mk 3 (divN a b s).1.1 (divN a b s).1.2 [] [] []) := by
  unfold quoR evalR
  rw [chk_15, h]
  by_cases g : (decide (s < 0) || decide (s > 12)) = true
  · have hd : divN a b s = ((0, 0), 2) := by
      unfold divN
      rw [if_neg (by simp [h]), if_pos g]
    rw [if_pos g, hd]
    simp
  · rw [if_neg g]
    by_cases q : (divN a b s).2 = 0 <;> simp [q, decV]

theorem encE_cst (a : Int × Int) : encE (cstE a) = .agg [.int .i64 1, .int .i64 0, .str [], .list 6 [encV (cstV a)], .list 5 []] := by
  rw [encE_eq]; rfl
theorem encV_cst (a : Int × Int) : encV (cstV a) = .agg [.int .i64 3, .int .i64 a.1, .int .i64 a.2, .str [], .list 6 [], .list 7 []] := by
  rw [encV_eq]; rfl
theorem encE_bin (op n : Int) (a b : Int × Int) : encE (binE op n a b) = .agg [.int .i64 op, .int .i64 n, .str [], .list 6 [], .list 5 [encE (cstE a), encE (cstE b)]] := by
  rw [encE_eq]; rfl
theorem encV_rec0 : encV recV0 = .agg [.int .i64 9, .int .i64 0, .int .i64 0, .str [], .list 6 [], .list 7 []] := by rw [encV_eq]; rfl

theorem walk5 (a b : Int × Int) (s : Int) : PCon Tryz.prog 5 [encN a, encN b, .int .i64 s] (.d (.bool true)) := by
  refine ok5.pcon (Nat.le_of_ble_eq_true rfl) trivial ?_
  have ka := (walk17 a).call trivial
  have kb := (walk17 b).call trivial
  have c1 := (walk_sum a b).call (by simp [pureR])
  have c2 := (walk_quo s a b).call (by simp [pureR])
  have c3 := (walk_les a b).call (by simp [pureR])
  have c20 := walk20.call trivial
  have ca := (walk21 a).call trivial
  have cb := (walk21 b).call trivial
  have cA := (walk22 a b).call (by simp [pureR])
  have cC := (walk23 a b).call (by simp [pureR])
  have cD := (walk24 a b s).call (by simp [pureR])
  have e1 : encE (.mk 1 0 [] [cstV a] []) = .agg [.int .i64 1, .int .i64 0, .str [], .list 6 [encV (cstV a)], .list 5 []] := encE_cst a
  have e2 : encE (.mk 1 0 [] [cstV b] []) = .agg [.int .i64 1, .int .i64 0, .str [], .list 6 [encV (cstV b)], .list 5 []] := encE_cst b
  rw [e1] at ka
  rw [e2] at kb
  rw [encE_bin, encE_cst, encE_cst, encV_rec0] at c1 c2 c3
  rw [encV_cst] at ka kb
  rw [encV_cst, encV_cst, encV_eq (sumR a b).1] at c1
  rw [encV_cst, encV_cst, encV_eq (quoR s a b).1] at c2
  rw [encV_cst, encV_cst] at c3
  simp only [encN] at ka kb ca cb cA cC cD
  simp only [go_sem, ir5, encN, Nat.reduceAdd, Nat.reduceEqDiff, Nat.reduceBEq, Nat.reduceLeDiff, reduceCtorEq, ↓reduceIte]
  refine wpsL_call rfl ka trivial ?_
  simp only [go_sem, Nat.reduceAdd, Nat.reduceEqDiff, Nat.reduceBEq, Nat.reduceLeDiff, reduceCtorEq, ↓reduceIte]
  refine wpsL_call rfl kb trivial ?_
  simp only [go_sem, Nat.reduceAdd, Nat.reduceEqDiff, Nat.reduceBEq, Nat.reduceLeDiff, reduceCtorEq, ↓reduceIte]
  have hm : ∀ (x : Dat), x ∈ [Dat.agg [Dat.int IntKind.i64 1, Dat.int IntKind.i64 0, Dat.str [], Dat.list 6 [Dat.agg [.int .i64 3, .int .i64 a.1, .int .i64 a.2, .str [], .list 6 [], .list 7 []]], Dat.list 5 []],
      Dat.agg [Dat.int IntKind.i64 1, Dat.int IntKind.i64 0, Dat.str [], Dat.list 6 [Dat.agg [.int .i64 3, .int .i64 b.1, .int .i64 b.2, .str [], .list 6 [], .list 7 []]], Dat.list 5 []]] → (match x with | Dat.agg cs => cs | x => [x]).length = 5 := by
    intro x hx
    simp only [List.mem_cons, List.not_mem_nil, or_false] at hx
    rcases hx with rfl | rfl <;> rfl
  refine ⟨rfl, hm, wps_pcall rfl c1 ?_⟩
  simp only [go_sem, Nat.reduceAdd, Nat.reduceEqDiff, Nat.reduceBEq, Nat.reduceLeDiff, reduceCtorEq, ↓reduceIte]
  refine ⟨hm, wps_pcall rfl c2 ?_⟩
  simp only [go_sem, Nat.reduceAdd, Nat.reduceEqDiff, Nat.reduceBEq, Nat.reduceLeDiff, reduceCtorEq, ↓reduceIte]
  refine ⟨hm, wps_pcall rfl c3 ?_⟩
  simp only [go_sem, Nat.reduceAdd, Nat.reduceEqDiff, Nat.reduceBEq, Nat.reduceLeDiff, reduceCtorEq, ↓reduceIte]
  refine wps_call rfl c20 trivial ?_
  simp only [go_sem, Bool.not_true, Bool.false_eq_true, Nat.reduceAdd, Nat.reduceEqDiff, Nat.reduceBEq, Nat.reduceLeDiff, reduceCtorEq, ↓reduceIte]
  refine wps_call rfl ca trivial ?_
  simp only [go_sem, Nat.reduceAdd, Nat.reduceEqDiff, Nat.reduceBEq, Nat.reduceLeDiff, reduceCtorEq, ↓reduceIte]
  refine scQ_pure (chkN b != 0) (fun _ => ?_) ?_
  · simp only [go_sem, Nat.reduceAdd, Nat.reduceEqDiff, Nat.reduceBEq, Nat.reduceLeDiff, reduceCtorEq, ↓reduceIte]
    refine wps_call rfl cb trivial ?_
    simp only [go_sem, Nat.reduceAdd, Nat.reduceEqDiff, Nat.reduceBEq, Nat.reduceLeDiff, reduceCtorEq, ↓reduceIte]
  simp only [go_sem, Nat.reduceAdd, Nat.reduceEqDiff, Nat.reduceBEq, Nat.reduceLeDiff, reduceCtorEq, ↓reduceIte]
  refine ⟨fun h1 => ?_, fun h1 => ?_⟩
  · have hf : fstN [a, b] ≠ 0 := by
      simp only [Bool.or_eq_true, bne_iff_ne, ne_eq] at h1
      simp only [fstN]
      split
      · assumption
      · rename_i q
        rcases h1 with h1 | h1
        · exact absurd h1 q
        · rw [if_pos h1]; exact h1
    have g1 : ((sumR a b).2 == 2) = true := by rw [sum_bad hf]; rfl
    have g2 : ((quoR s a b).2 == 2) = true := by rw [quo_bad s hf]; rfl
    have g3 : ((lesR a b).2 == 2) = true := by rw [les_bad hf]; rfl
    simp only [go_sem, g1, g2, g3, Nat.reduceAdd, Nat.reduceEqDiff, Nat.reduceBEq, Nat.reduceLeDiff, reduceCtorEq, ↓reduceIte]
  have hf : fstN [a, b] = 0 := by
    simp only [Bool.or_eq_false_iff, bne_eq_false_iff_eq] at h1
    simp only [fstN, h1.1, h1.2, ne_eq, not_true_eq_false, ↓reduceIte]
  have v1 : ((sumR a b).2 != (addN a b).2) = false := by rw [(sum_ok hf).1]; simp
  have v6 : ((lesR a b).2 != 0) = false := by rw [les_ok hf]; rfl
  have v7 : ((lesR a b).1 == decide ((cprN a b).1 < 0)) = true := by rw [les_ok hf]; simp
  have v8 : ((quoR s a b).2 == (divN a b s).2) = true := by rw [(quo_ok s hf).1]; simp
  refine wps_call rfl cA trivial ?_
  simp only [go_sem, Nat.reduceAdd, Nat.reduceEqDiff, Nat.reduceBEq, Nat.reduceLeDiff, reduceCtorEq, ↓reduceIte]
  refine wps_call rfl cC trivial ?_
  simp only [go_sem, v1, Nat.reduceAdd, Nat.reduceEqDiff, Nat.reduceBEq, Nat.reduceLeDiff, reduceCtorEq, ↓reduceIte]
  refine scQ_pure false (fun hX => ?_) ?_
  · have e0 : (addN a b).2 = 0 := by rw [← (sum_ok hf).1]; simpa using hX
    have eV := (sum_ok hf).2 e0
    have v3 : ((sumR a b).1.int != (addN a b).1.1) = false := by rw [eV]; simp [Val.int]
    have v4 : ((sumR a b).1.scale != (addN a b).1.2) = false := by rw [eV]; simp [Val.scale]
    have v5 : ((sumR a b).1.kind != 3) = false := by rw [eV]; rfl
    simp only [go_sem, v3, v4, v5, Nat.reduceAdd, Nat.reduceEqDiff, Nat.reduceBEq, Nat.reduceLeDiff, reduceCtorEq, ↓reduceIte]
  simp only [go_sem, Bool.and_false, Bool.not_true, v6, v7, Nat.reduceAdd, Nat.reduceEqDiff, Nat.reduceBEq, Nat.reduceLeDiff, reduceCtorEq, ↓reduceIte]
  refine wps_call rfl cD trivial ?_
  simp only [go_sem, v8, Nat.reduceAdd, Nat.reduceEqDiff, Nat.reduceBEq, Nat.reduceLeDiff, reduceCtorEq, ↓reduceIte]
  refine scQ_pure true (fun hX => ?_) ?_
  · have e0 : (divN a b s).2 = 0 := by rw [← (quo_ok s hf).1]; simpa using hX
    have eV := (quo_ok s hf).2 e0
    have v3 : ((quoR s a b).1.int == (divN a b s).1.1) = true := by rw [eV]; simp [Val.int]
    have v4 : ((quoR s a b).1.scale == (divN a b s).1.2) = true := by rw [eV]; simp [Val.scale]
    simp only [go_sem, v3, v4, Nat.reduceAdd, Nat.reduceEqDiff, Nat.reduceBEq, Nat.reduceLeDiff, reduceCtorEq, ↓reduceIte]
  simp only [go_sem, Bool.or_true, Nat.reduceAdd, Nat.reduceEqDiff, Nat.reduceBEq, Nat.reduceLeDiff, reduceCtorEq, ↓reduceIte]
end Go.Proofs
