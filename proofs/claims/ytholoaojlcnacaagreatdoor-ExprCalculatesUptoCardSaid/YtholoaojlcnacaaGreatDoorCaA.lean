/- Package decimal: what its functions answer. -/
import Derived.Test.YtholoaojlcnacaaGreatDoorPathA
import Derived.Test.YtholoaojlcnacaaGreatDoorPathD
import Derived.Test.YtholoaojlcnacaaGreatDoorFormsC
import Derived.Test.YtholoaojlcnacaaGreatDoorWalkA
set_option linter.unusedVariables false
set_option linter.unusedSimpArgs false
set_option linter.unusedSectionVars false
set_option linter.unusedSimpArgs false
set_option linter.unusedVariables false
set_option maxRecDepth 10000
namespace Go.Proofs
open Go Av

def tenI (n : Int) : Int := ((10 ^ n.toNat : Nat) : Int)
def tenT : Tbl := (List.range 13).map fun (n : Nat) => (137, [.int .i64 (n : Int)], .d (.int .i64 ((10 ^ n : Nat) : Int)))
theorem tenT_ok : tblOK Tryz.prog X1 tenT = true := by kernel_rfl
theorem call137 (n : Int) (h0 : 0 ≤ n) (h1 : n ≤ 12) : CallOK Tryz.prog 137 [.d (.int .i64 n)] [] (.d (.int .i64 (tenI n))) [] := by
  have hX := ext_ok X1_ok tenT_ok
  have : ext tenT X1 137 [.int .i64 n] = some (.d (.int .i64 (tenI n))) := by
    obtain ⟨k, rfl⟩ : ∃ k : Nat, n = k := ⟨n.toNat, by omega⟩
    have hk : k ≤ 12 := by omega
    match k, hk with
    | 0, _ | 1, _ | 2, _ | 3, _ | 4, _ | 5, _ | 6, _ | 7, _ | 8, _ | 9, _ | 10, _ | 11, _ | 12, _ => rfl
  exact hX _ _ _ this
theorem tenI_pos (n : Int) : 0 < tenI n := by
  unfold tenI
  have : 0 < 10 ^ n.toNat := Nat.pow_pos (by decide)
  omega
theorem tenI_ne (n : Int) : tenI n ≠ 0 := by have := tenI_pos n; omega

def absW (n : Int) : Int := if IntKind.i64.wrap (0 - n) > n then IntKind.i64.wrap (0 - n) else n
theorem walk58 (n : Int) : PCon Tryz.prog 58 [.int .i64 n] (.d (.int .i64 (absW n))) := by
  refine ok58.pcon (Nat.le_of_ble_eq_true rfl) trivial ?_
  simp only [go_sem, ir58, absW, Nat.reduceAdd, Nat.reduceEqDiff, Nat.reduceBEq, Nat.reduceLeDiff, reduceCtorEq, ↓reduceIte]

def encN (p : Int × Int) : Dat := .agg [.int .i64 p.1, .int .i64 p.2]
theorem nth_encN {xs : List (Int × Int)} {k : Nat} (h : k < xs.length) : nth (xs.map encN) k = .agg [.int .i64 xs[k].1, .int .i64 xs[k].2] := by
  rw [nth_eq (by simpa using h), List.getElem_map, encN]
def chkN (p : Int × Int) : Int := if ((decide (absW p.1 > 999999999999999) || decide (p.1 < -999999999999999)) || decide (p.2 < 0)) || decide (p.2 > 12) then 2 else 0
theorem walk21 (p : Int × Int) : PCon Tryz.prog 21 [encN p] (.d (.int .i64 (chkN p))) := by
  refine ok21.pcon (Nat.le_of_ble_eq_true rfl) trivial ?_
  simp only [go_sem, ir21, encN, Nat.reduceAdd, Nat.reduceEqDiff, Nat.reduceBEq, Nat.reduceLeDiff, reduceCtorEq, ↓reduceIte]
  refine wps_call rfl ((walk58 p.1).call trivial) trivial ?_
  simp only [go_sem, Nat.reduceAdd, Nat.reduceEqDiff, Nat.reduceBEq, Nat.reduceLeDiff, reduceCtorEq, ↓reduceIte]
  refine scQ_pure (decide (p.1 < -999999999999999)) (fun _ => ?_) ?_
  · simp only [go_sem, Nat.reduceAdd, Nat.reduceEqDiff, Nat.reduceBEq, Nat.reduceLeDiff, reduceCtorEq, ↓reduceIte]
  simp only [go_sem, Nat.reduceAdd, Nat.reduceEqDiff, Nat.reduceBEq, Nat.reduceLeDiff, reduceCtorEq, ↓reduceIte]
  refine scQ_pure (decide (p.2 < 0)) (fun _ => ?_) ?_
  · simp only [go_sem, Nat.reduceAdd, Nat.reduceEqDiff, Nat.reduceBEq, Nat.reduceLeDiff, reduceCtorEq, ↓reduceIte]
  simp only [go_sem, Nat.reduceAdd, Nat.reduceEqDiff, Nat.reduceBEq, Nat.reduceLeDiff, reduceCtorEq, ↓reduceIte]
  refine scQ_pure (decide (p.2 > 12)) (fun _ => ?_) ?_
  · simp only [go_sem, Nat.reduceAdd, Nat.reduceEqDiff, Nat.reduceBEq, Nat.reduceLeDiff, reduceCtorEq, ↓reduceIte]
  simp only [go_sem, Nat.reduceAdd, Nat.reduceEqDiff, Nat.reduceBEq, Nat.reduceLeDiff, reduceCtorEq, ↓reduceIte]
  refine ⟨fun h => ?_, fun h => ?_⟩
  · rw [chkN, if_pos h]
  · rw [chkN, if_neg (by rw [h]; exact Bool.false_ne_true)]
/-- the first error of numbers -/
def fstN : List (Int × Int) → Int
  | [] => 0
  | p :: r => if chkN p ≠ 0 then chkN p else fstN r
theorem walk59 (l : List (Int × Int)) (hl : l.length ≤ 68719476736) : PCon Tryz.prog 59 [.list 2 (l.map encN)] (.d (.int .i64 (fstN l))) := by
  refine ok59.pcon (Nat.le_of_ble_eq_true rfl) trivial ?_
  simp only [go_sem, ir59, Nat.reduceAdd, Nat.reduceEqDiff, Nat.reduceBEq, Nat.reduceLeDiff, reduceCtorEq, ↓reduceIte]
  generalize hR : fstN l = R
  simp only [List.length_map]
  refine wpc_loop (fun r s => ∃ (k : Nat), k ≤ l.length ∧ r = l.length - k ∧ fstN (l.drop k) = R ∧
    s = ⟨[(6, .d (.list 2 (l.map encN))), (7, .d (.int .i64 l.length)), (8, .d (.int .i64 k))], []⟩) ?_ ?_
  · exact ⟨_, _, Wk.refl _, 0, Nat.zero_le _, rfl, hR, rfl⟩
  · rintro r s ⟨k, hk, rfl, hinv, rfl⟩
    by_cases hlt : k < l.length
    · have hx := nth_encN hlt
      have hd : decide ((k : Int) < (l.length : Int)) = true := by simp; omega
      have hc := (walk21 l[k]).call trivial
      rw [encN] at hc
      rw [List.drop_eq_getElem_cons hlt, fstN] at hinv
      simp only [go_sem, hx, hd, Int.toNat_natCast, List.length_map, Nat.reduceAdd, Nat.reduceEqDiff, Nat.reduceBEq, Nat.reduceLeDiff, reduceCtorEq, ↓reduceIte]
      refine ⟨by omega, wps_call rfl hc trivial ?_⟩
      simp only [go_sem, Nat.reduceAdd, Nat.reduceEqDiff, Nat.reduceBEq, Nat.reduceLeDiff, reduceCtorEq, ↓reduceIte]
      refine ⟨fun h => ?_, fun h => ?_⟩
      · rw [if_pos (by simpa using h)] at hinv
        rw [hinv]
      · rw [if_neg (by simpa using h)] at hinv
        refine ⟨l.length - (k + 1), _, by omega, Wk.less ?_, k + 1, by omega, rfl, hinv, rfl⟩
        simp only [go_sem, wrap64s k (by omega), Nat.reduceAdd, Nat.reduceEqDiff, Nat.reduceBEq, Nat.reduceLeDiff, reduceCtorEq, ↓reduceIte]
    · have hd : decide ((k : Int) < (l.length : Int)) = false := by simp; omega
      obtain rfl : k = l.length := by omega
      rw [List.drop_length, fstN] at hinv
      subst hinv
      simp only [go_sem, hd, Nat.reduceAdd, Nat.reduceEqDiff, Nat.reduceBEq, Nat.reduceLeDiff, reduceCtorEq, ↓reduceIte]
def fitN (n s : Int) : (Int × Int) × Int := if decide (absW n > 999999999999999) then ((0, 0), 14) else ((n, s), 0)
theorem walk65 (n s : Int) : PCon Tryz.prog 65 [.int .i64 n, .int .i64 s] (.tup [.d (encN (fitN n s).1), .d (.int .i64 (fitN n s).2)]) := by
  refine ok65.pcon (Nat.le_of_ble_eq_true rfl) (by simp [inTR, idsIn, idsInL]) ?_
  simp only [go_sem, ir65, Nat.reduceAdd, Nat.reduceEqDiff, Nat.reduceBEq, Nat.reduceLeDiff, reduceCtorEq, ↓reduceIte]
  refine wps_call rfl ((walk58 n).call trivial) trivial ?_
  simp only [go_sem, Nat.reduceAdd, Nat.reduceEqDiff, Nat.reduceBEq, Nat.reduceLeDiff, reduceCtorEq, ↓reduceIte]
  refine ⟨fun h => ?_, fun h => ?_⟩
  · simp only [fitN, h, encN, ↓reduceIte]
  · simp only [fitN, h, encN, Bool.false_eq_true, ↓reduceIte]
def partsN (p : Int × Int) : Int × Int := (IntKind.i64.wrap (p.1.tdiv (tenI p.2)), IntKind.i64.wrap (p.1.tmod (tenI p.2) * tenI (12 - p.2)))
theorem walk61 (p : Int × Int) (h0 : 0 ≤ p.2) (h1 : p.2 ≤ 12) : PCon Tryz.prog 61 [encN p] (.tup [.d (.int .i64 (partsN p).1), .d (.int .i64 (partsN p).2)]) := by
  refine ok61.pcon (Nat.le_of_ble_eq_true rfl) (by simp [inTR, idsIn, idsInL]) ?_
  simp only [go_sem, ir61, encN, Nat.reduceAdd, Nat.reduceEqDiff, Nat.reduceBEq, Nat.reduceLeDiff, reduceCtorEq, ↓reduceIte]
  refine wps_call rfl (call137 p.2 h0 h1) trivial ?_
  have hw : IntKind.i64.wrap (12 - p.2) = 12 - p.2 := wrap64 (by omega) (by omega)
  have hne := tenI_ne p.2
  simp only [go_sem, hw, Nat.reduceAdd, Nat.reduceEqDiff, Nat.reduceBEq, Nat.reduceLeDiff, reduceCtorEq, ↓reduceIte]
  refine ⟨hne, hne, wpsL_call rfl (call137 (12 - p.2) (by omega) (by omega)) trivial ?_⟩
  simp only [go_sem, partsN, Nat.reduceAdd, Nat.reduceEqDiff, Nat.reduceBEq, Nat.reduceLeDiff, reduceCtorEq, ↓reduceIte]
  try rfl
end Go.Proofs
/- decimal.total, Add, Compare. -/
set_option linter.unusedSimpArgs false
set_option linter.unusedVariables false
set_option maxRecDepth 10000
namespace Go.Proofs
open Go Av

/-- the sums of the parts of numbers -/
def sumN : List (Int × Int) → Int → Int → Int × Int
  | [], w, r => (w, r)
  | p :: l, w, r => sumN l (IntKind.i64.wrap (w + (partsN p).1)) (IntKind.i64.wrap (r + (partsN p).2))
def signN (w r : Int) : Int × Int :=
  if decide (w > 0) && decide (r < 0) then (IntKind.i64.wrap (w - 1), IntKind.i64.wrap (r + tenI 12))
  else if decide (w < 0) && decide (r > 0) then (IntKind.i64.wrap (w + 1), IntKind.i64.wrap (r - tenI 12)) else (w, r)
def endN (w r s : Int) : (Int × Int) × Int :=
  if decide (absW w > IntKind.i64.wrap (Int.tdiv 999999999999999 (tenI s))) then ((0, 0), 14) else fitN (IntKind.i64.wrap (IntKind.i64.wrap (w * tenI s) + IntKind.i64.wrap (r.tdiv (tenI (12 - s))))) s
def totN (l : List (Int × Int)) (s : Int) : (Int × Int) × Int :=
  endN (signN (IntKind.i64.wrap ((sumN l 0 0).1 + IntKind.i64.wrap ((sumN l 0 0).2.tdiv (tenI 12)))) ((sumN l 0 0).2.tmod (tenI 12))).1
    (signN (IntKind.i64.wrap ((sumN l 0 0).1 + IntKind.i64.wrap ((sumN l 0 0).2.tdiv (tenI 12)))) ((sumN l 0 0).2.tmod (tenI 12))).2 s
theorem walk60 (l : List (Int × Int)) (s : Int) (hl : l.length ≤ 68719476736) (hp : ∀ p ∈ l, 0 ≤ p.2 ∧ p.2 ≤ 12) (h0 : 0 ≤ s) (h1 : s ≤ 12) :
    PCon Tryz.prog 60 [.list 2 (l.map encN), .int .i64 s] (.tup [.d (encN (totN l s).1), .d (.int .i64 (totN l s).2)]) := by
  refine ok60.pcon (Nat.le_of_ble_eq_true rfl) (by simp [inTR, idsIn, idsInL]) ?_
  have c12 := call137 12 (by decide) (by decide)
  have cs := call137 s h0 h1
  have hws : IntKind.i64.wrap (12 - s) = 12 - s := wrap64 (by omega) (by omega)
  have cs2 := call137 (12 - s) (by omega) (by omega)
  have n12 := tenI_ne 12
  have ns := tenI_ne s
  have ns2 := tenI_ne (12 - s)
  generalize hT : totN l s = T
  unfold totN at hT
  simp only [go_sem, ir60, Nat.reduceAdd, Nat.reduceEqDiff, Nat.reduceBEq, Nat.reduceLeDiff, reduceCtorEq, ↓reduceIte]
  refine wps_call rfl c12 trivial ?_
  simp only [go_sem, List.length_map, Nat.reduceAdd, Nat.reduceEqDiff, Nat.reduceBEq, Nat.reduceLeDiff, reduceCtorEq, ↓reduceIte]
  refine wpc_loop (fun r st => ∃ (k : Nat) (w q : Int), k ≤ l.length ∧ r = l.length - k ∧ sumN (l.drop k) w q = sumN l 0 0 ∧
    st = ⟨[(1, .d (.int .i64 s)), (6, .d (.int .i64 (tenI 12))), (7, .d (.int .i64 w)), (8, .d (.int .i64 q)), (14, .d (.list 2 (l.map encN))), (15, .d (.int .i64 l.length)), (16, .d (.int .i64 k)), (4, .ref 4 0)], [(4, .box [.d (.int .i64 0), .d (.int .i64 0)])]⟩) ?_ ?_
  · refine ⟨_, _, Wk.less ?_, 0, 0, 0, Nat.zero_le _, rfl, rfl, rfl⟩
    simp [go_sem]
  · rintro r st ⟨k, w, q, hk, rfl, hinv, rfl⟩
    by_cases hlt : k < l.length
    · have hx := nth_encN hlt
      have hd : decide ((k : Int) < (l.length : Int)) = true := by simp; omega
      obtain ⟨p0, p1⟩ := hp l[k] (List.getElem_mem _)
      have hc := (walk61 l[k] p0 p1).call (by simp [pureR])
      rw [encN] at hc
      rw [List.drop_eq_getElem_cons hlt, sumN] at hinv
      simp only [go_sem, hx, hd, Int.toNat_natCast, List.length_map, Nat.reduceAdd, Nat.reduceEqDiff, Nat.reduceBEq, Nat.reduceLeDiff, reduceCtorEq, ↓reduceIte]
      refine ⟨by omega, wps_call rfl hc trivial ?_⟩
      simp only [go_sem, Nat.reduceAdd, Nat.reduceEqDiff, Nat.reduceBEq, Nat.reduceLeDiff, reduceCtorEq, ↓reduceIte]
      refine ⟨l.length - (k + 1), _, by omega, Wk.less ?_, k + 1, _, _, by omega, rfl, hinv, rfl⟩
      simp [go_sem, wrap64s k (by omega)]
    · have hd : decide ((k : Int) < (l.length : Int)) = false := by simp; omega
      obtain rfl : k = l.length := by omega
      rw [List.drop_length, sumN] at hinv
      rw [← hinv] at hT
      simp only at hT
      simp only [go_sem, hd, Nat.reduceAdd, Nat.reduceEqDiff, Nat.reduceBEq, Nat.reduceLeDiff, reduceCtorEq, ↓reduceIte]
      refine ⟨n12, n12, ?_⟩
      generalize IntKind.i64.wrap (w + IntKind.i64.wrap (q.tdiv (tenI 12))) = w1 at *
      generalize q.tmod (tenI 12) = r1 at *
      refine scQ_pure (decide (r1 < 0)) (fun _ => ?_) ?_
      · simp only [go_sem, Nat.reduceAdd, Nat.reduceEqDiff, Nat.reduceBEq, Nat.reduceLeDiff, reduceCtorEq, ↓reduceIte]
      simp only [go_sem, Nat.reduceAdd, Nat.reduceEqDiff, Nat.reduceBEq, Nat.reduceLeDiff, reduceCtorEq, ↓reduceIte]
      unfold signN at hT
      -- the end
      have fin : True := trivial
      refine ⟨fun ha => ?_, fun ha => ?_⟩
      · rw [if_pos ha] at hT
        simp only at hT
        generalize IntKind.i64.wrap (w1 - 1) = w2 at *
        generalize IntKind.i64.wrap (r1 + tenI 12) = r2 at *
        unfold endN at hT
        refine wps_call rfl ((walk58 w2).call trivial) trivial ?_
        simp only [go_sem, Nat.reduceAdd, Nat.reduceEqDiff, Nat.reduceBEq, Nat.reduceLeDiff, reduceCtorEq, ↓reduceIte]
        refine wps_call rfl cs trivial ?_
        simp only [go_sem, Nat.reduceAdd, Nat.reduceEqDiff, Nat.reduceBEq, Nat.reduceLeDiff, reduceCtorEq, ↓reduceIte]
        refine ⟨ns, fun hc => ?_, fun hc => ?_⟩
        · rw [if_pos hc] at hT
          rw [← hT]
          rfl
        rw [if_neg (by rw [hc]; exact Bool.false_ne_true)] at hT
        refine wps_call rfl cs trivial ?_
        simp only [go_sem, hws, Nat.reduceAdd, Nat.reduceEqDiff, Nat.reduceBEq, Nat.reduceLeDiff, reduceCtorEq, ↓reduceIte]
        refine wps_call rfl cs2 trivial ?_
        simp only [go_sem, Nat.reduceAdd, Nat.reduceEqDiff, Nat.reduceBEq, Nat.reduceLeDiff, reduceCtorEq, ↓reduceIte]
        refine ⟨ns2, wps_call rfl ((walk65 _ s).call (by simp [pureR])) trivial ?_⟩
        rw [hT]
        simp only [go_sem, encN, Nat.reduceAdd, Nat.reduceEqDiff, Nat.reduceBEq, Nat.reduceLeDiff, reduceCtorEq, ↓reduceIte]
      · rw [if_neg (by rw [ha]; exact Bool.false_ne_true)] at hT
        refine scQ_pure (decide (r1 > 0)) (fun _ => ?_) ?_
        · simp only [go_sem, Nat.reduceAdd, Nat.reduceEqDiff, Nat.reduceBEq, Nat.reduceLeDiff, reduceCtorEq, ↓reduceIte]
        simp only [go_sem, Nat.reduceAdd, Nat.reduceEqDiff, Nat.reduceBEq, Nat.reduceLeDiff, reduceCtorEq, ↓reduceIte]
        refine ⟨fun hb => ?_, fun hb => ?_⟩
        · rw [if_pos hb] at hT
          simp only at hT
          generalize IntKind.i64.wrap (w1 + 1) = w2 at *
          generalize IntKind.i64.wrap (r1 - tenI 12) = r2 at *
          unfold endN at hT
          refine wps_call rfl ((walk58 w2).call trivial) trivial ?_
          simp only [go_sem, Nat.reduceAdd, Nat.reduceEqDiff, Nat.reduceBEq, Nat.reduceLeDiff, reduceCtorEq, ↓reduceIte]
          refine wps_call rfl cs trivial ?_
          simp only [go_sem, Nat.reduceAdd, Nat.reduceEqDiff, Nat.reduceBEq, Nat.reduceLeDiff, reduceCtorEq, ↓reduceIte]
          refine ⟨ns, fun hc => ?_, fun hc => ?_⟩
          · rw [if_pos hc] at hT
            rw [← hT]
            rfl
          rw [if_neg (by rw [hc]; exact Bool.false_ne_true)] at hT
          refine wps_call rfl cs trivial ?_
          simp only [go_sem, hws, Nat.reduceAdd, Nat.reduceEqDiff, Nat.reduceBEq, Nat.reduceLeDiff, reduceCtorEq, ↓reduceIte]
          refine wps_call rfl cs2 trivial ?_
          simp only [go_sem, Nat.reduceAdd, Nat.reduceEqDiff, Nat.reduceBEq, Nat.reduceLeDiff, reduceCtorEq, ↓reduceIte]
          refine ⟨ns2, wps_call rfl ((walk65 _ s).call (by simp [pureR])) trivial ?_⟩
          rw [hT]
          simp only [go_sem, encN, Nat.reduceAdd, Nat.reduceEqDiff, Nat.reduceBEq, Nat.reduceLeDiff, reduceCtorEq, ↓reduceIte]
        · rw [if_neg (by rw [hb]; exact Bool.false_ne_true)] at hT
          simp only at hT
          generalize w1 = w2 at *
          generalize r1 = r2 at *
          unfold endN at hT
          refine wps_call rfl ((walk58 w2).call trivial) trivial ?_
          simp only [go_sem, Nat.reduceAdd, Nat.reduceEqDiff, Nat.reduceBEq, Nat.reduceLeDiff, reduceCtorEq, ↓reduceIte]
          refine wps_call rfl cs trivial ?_
          simp only [go_sem, Nat.reduceAdd, Nat.reduceEqDiff, Nat.reduceBEq, Nat.reduceLeDiff, reduceCtorEq, ↓reduceIte]
          refine ⟨ns, fun hc => ?_, fun hc => ?_⟩
          · rw [if_pos hc] at hT
            rw [← hT]
            rfl
          rw [if_neg (by rw [hc]; exact Bool.false_ne_true)] at hT
          refine wps_call rfl cs trivial ?_
          simp only [go_sem, hws, Nat.reduceAdd, Nat.reduceEqDiff, Nat.reduceBEq, Nat.reduceLeDiff, reduceCtorEq, ↓reduceIte]
          refine wps_call rfl cs2 trivial ?_
          simp only [go_sem, Nat.reduceAdd, Nat.reduceEqDiff, Nat.reduceBEq, Nat.reduceLeDiff, reduceCtorEq, ↓reduceIte]
          refine ⟨ns2, wps_call rfl ((walk65 _ s).call (by simp [pureR])) trivial ?_⟩
          rw [hT]
          simp only [go_sem, encN, Nat.reduceAdd, Nat.reduceEqDiff, Nat.reduceBEq, Nat.reduceLeDiff, reduceCtorEq, ↓reduceIte]

def addN (a b : Int × Int) : (Int × Int) × Int := if fstN [a, b] ≠ 0 then ((0, 0), fstN [a, b]) else totN [a, b] (if b.2 > a.2 then b.2 else a.2)
theorem fstN_ok {l : List (Int × Int)} (h : fstN l = 0) : ∀ p ∈ l, chkN p = 0 := by
  induction l with
  | nil => intro p hp; cases hp
  | cons a r ih =>
    simp only [fstN] at h
    split at h
    · rename_i h1; exact absurd h h1
    · rename_i h1
      intro p hp
      rcases List.mem_cons.1 hp with rfl | hp
      · simpa using h1
      · exact ih h p hp
theorem chkN_ok {p : Int × Int} (h : chkN p = 0) : 0 ≤ p.2 ∧ p.2 ≤ 12 ∧ -999999999999999 ≤ p.1 ∧ p.1 ≤ 999999999999999 := by
  unfold chkN at h
  split at h
  · cases h
  · rename_i h1
    simp only [Bool.or_eq_true, decide_eq_true_eq, not_or, Int.not_lt, gt_iff_lt] at h1
    obtain ⟨⟨⟨a, b⟩, c⟩, d⟩ := h1
    refine ⟨c, d, b, ?_⟩
    unfold absW at a
    split at a
    · omega
    · exact a
theorem walk22 (a b : Int × Int) : PCon Tryz.prog 22 [encN a, encN b] (.tup [.d (encN (addN a b).1), .d (.int .i64 (addN a b).2)]) := by
  refine ok22.pcon (Nat.le_of_ble_eq_true rfl) (by simp [inTR, idsIn, idsInL]) ?_
  have h59 := (walk59 [a, b] (by simp)).call trivial
  simp only [List.map_cons, List.map_nil, encN] at h59
  by_cases hf : fstN [a, b] = 0
  · have hv := fstN_ok hf
    have ha := chkN_ok (hv a (by simp))
    have hb := chkN_ok (hv b (by simp))
    have hT : addN a b = totN [a, b] (if b.2 > a.2 then b.2 else a.2) := by rw [addN, if_neg (by simp [hf])]
    have h60 := (walk60 [a, b] (if b.2 > a.2 then b.2 else a.2) (by simp) (fun p hp => by
      rcases List.mem_cons.1 hp with rfl | hp
      · exact ⟨ha.1, ha.2.1⟩
      · obtain rfl := List.mem_singleton.1 hp; exact ⟨hb.1, hb.2.1⟩) (by split <;> omega) (by split <;> omega)).call (by simp [pureR])
    rw [hT]
    generalize totN [a, b] (if b.2 > a.2 then b.2 else a.2) = T at *
    rw [hf] at h59
    simp only [List.map_cons, List.map_nil, encN] at h60
    simp only [go_sem, ir22, encN, Nat.reduceAdd, Nat.reduceEqDiff, Nat.reduceBEq, Nat.reduceLeDiff, reduceCtorEq, ↓reduceIte]
    refine ⟨by simp, wps_call rfl h59 trivial ?_⟩
    have q0 : ((0 : Int) != 0) = false := rfl
    simp only [go_sem, q0, Nat.reduceAdd, Nat.reduceEqDiff, Nat.reduceBEq, Nat.reduceLeDiff, reduceCtorEq, ↓reduceIte]
    refine ⟨by simp, wps_call rfl h60 trivial ?_⟩
    simp only [go_sem, Nat.reduceAdd, Nat.reduceEqDiff, Nat.reduceBEq, Nat.reduceLeDiff, reduceCtorEq, ↓reduceIte]
  · have hT : addN a b = ((0, 0), fstN [a, b]) := by rw [addN, if_pos hf]
    rw [hT]
    have q0 : (fstN [a, b] != 0) = true := by simp [hf]
    generalize fstN [a, b] = F at *
    simp only [go_sem, ir22, encN, Nat.reduceAdd, Nat.reduceEqDiff, Nat.reduceBEq, Nat.reduceLeDiff, reduceCtorEq, ↓reduceIte]
    refine ⟨by simp, wps_call rfl h59 trivial ?_⟩
    simp only [go_sem, q0, Nat.reduceAdd, Nat.reduceEqDiff, Nat.reduceBEq, Nat.reduceLeDiff, reduceCtorEq, ↓reduceIte]
def cprN (a b : Int × Int) : Int × Int := if fstN [a, b] ≠ 0 then (0, fstN [a, b]) else (orI [cmpI (partsN a).1 (partsN b).1, cmpI (partsN a).2 (partsN b).2], 0)
theorem walk23 (a b : Int × Int) : PCon Tryz.prog 23 [encN a, encN b] (.tup [.d (.int .i64 (cprN a b).1), .d (.int .i64 (cprN a b).2)]) := by
  refine ok23.pcon (Nat.le_of_ble_eq_true rfl) (by simp [inTR, idsIn, idsInL]) ?_
  have h59 := (walk59 [a, b] (by simp)).call trivial
  simp only [List.map_cons, List.map_nil, encN] at h59
  by_cases hf : fstN [a, b] = 0
  · have hv := fstN_ok hf
    have ha := chkN_ok (hv a (by simp))
    have hb := chkN_ok (hv b (by simp))
    have ca := (walk61 a ha.1 ha.2.1).call (by simp [pureR])
    have cb := (walk61 b hb.1 hb.2.1).call (by simp [pureR])
    rw [cprN, if_neg (by simp [hf])]
    rw [hf] at h59
    simp only [encN] at ca cb
    simp only [go_sem, ir23, encN, Nat.reduceAdd, Nat.reduceEqDiff, Nat.reduceBEq, Nat.reduceLeDiff, reduceCtorEq, ↓reduceIte]
    refine ⟨by simp, wps_call rfl h59 trivial ?_⟩
    have q0 : ((0 : Int) != 0) = false := rfl
    simp only [go_sem, q0, Nat.reduceAdd, Nat.reduceEqDiff, Nat.reduceBEq, Nat.reduceLeDiff, reduceCtorEq, ↓reduceIte]
    refine wps_call rfl ca trivial ?_
    simp only [go_sem, Nat.reduceAdd, Nat.reduceEqDiff, Nat.reduceBEq, Nat.reduceLeDiff, reduceCtorEq, ↓reduceIte]
    refine wps_call rfl cb trivial ?_
    simp only [go_sem, Nat.reduceAdd, Nat.reduceEqDiff, Nat.reduceBEq, Nat.reduceLeDiff, reduceCtorEq, ↓reduceIte]
    refine wps_call rfl ((walk63 _ _).call trivial) trivial ?_
    simp only [go_sem, Nat.reduceAdd, Nat.reduceEqDiff, Nat.reduceBEq, Nat.reduceLeDiff, reduceCtorEq, ↓reduceIte]
    refine wps_call rfl ((walk63 _ _).call trivial) trivial ?_
    simp only [go_sem, Nat.reduceAdd, Nat.reduceEqDiff, Nat.reduceBEq, Nat.reduceLeDiff, reduceCtorEq, ↓reduceIte]
    refine ⟨by simp [Dat.cells], wps_call rfl ((walk62 [cmpI (partsN a).1 (partsN b).1, cmpI (partsN a).2 (partsN b).2] (by simp)).call trivial) trivial ?_⟩
    simp only [go_sem, Nat.reduceAdd, Nat.reduceEqDiff, Nat.reduceBEq, Nat.reduceLeDiff, reduceCtorEq, ↓reduceIte]
  · rw [cprN, if_pos hf]
    have q0 : (fstN [a, b] != 0) = true := by simp [hf]
    generalize fstN [a, b] = F at *
    simp only [go_sem, ir23, encN, Nat.reduceAdd, Nat.reduceEqDiff, Nat.reduceBEq, Nat.reduceLeDiff, reduceCtorEq, ↓reduceIte]
    refine ⟨by simp, wps_call rfl h59 trivial ?_⟩
    simp only [go_sem, q0, Nat.reduceAdd, Nat.reduceEqDiff, Nat.reduceBEq, Nat.reduceLeDiff, reduceCtorEq, ↓reduceIte]
end Go.Proofs
/- decimal.divide, Div. -/
set_option linter.unusedSimpArgs false
set_option linter.unusedVariables false
set_option maxRecDepth 10000
namespace Go.Proofs
open Go Av

def dv1 : Nat → Int → Int → Int × Int
  | 0, b, e => (b, e)
  | k + 1, b, e => if decide (e < 0) && decide (b ≤ 3999999999999996) then dv1 k (IntKind.i64.wrap (b * 10)) (IntKind.i64.wrap (e + 1)) else (b, e)
def dv2 : Nat → Int → Int → Int → Int → Int × Int
  | 0, _, q, r, _ => (q, r)
  | k + 1, b, q, r, e => if decide (e > 0) && decide (q ≤ 999999999999999) then dv2 k b (IntKind.i64.wrap (IntKind.i64.wrap (10 * q) + IntKind.i64.wrap ((IntKind.i64.wrap (r * 10)).tdiv b))) ((IntKind.i64.wrap (r * 10)).tmod b) (IntKind.i64.wrap (e - 1)) else (q, r)
def rndN (b q r : Int) : Int := if decide (IntKind.i64.wrap (2 * r) > b) || (IntKind.i64.wrap (2 * r) == b && q.tmod 2 == 1) then IntKind.i64.wrap (q + 1) else q
def dvN (a b e : Int) : Int :=
  if decide ((dv1 64 (absW b) e).2 < 0) then 0 else
    rndN (dv1 64 (absW b) e).1 (dv2 64 (dv1 64 (absW b) e).1 (IntKind.i64.wrap ((absW a).tdiv (dv1 64 (absW b) e).1)) ((absW a).tmod (dv1 64 (absW b) e).1) (dv1 64 (absW b) e).2).1
      (dv2 64 (dv1 64 (absW b) e).1 (IntKind.i64.wrap ((absW a).tdiv (dv1 64 (absW b) e).1)) ((absW a).tmod (dv1 64 (absW b) e).1) (dv1 64 (absW b) e).2).2
theorem absW_pos {b : Int} (h : b ≠ 0) (h0 : -999999999999999 ≤ b) (h1 : b ≤ 999999999999999) : 0 < absW b ∧ absW b ≤ 999999999999999 := by
  unfold absW
  have hw : IntKind.i64.wrap (0 - b) = 0 - b := wrap64 (by omega) (by omega)
  rw [hw]
  split <;> omega
theorem walk64 (a b e : Int) (hb : b ≠ 0) (hb0 : -999999999999999 ≤ b) (hb1 : b ≤ 999999999999999) (he0 : -60 ≤ e) (he1 : e ≤ 60) :
    PCon Tryz.prog 64 [.int .i64 a, .int .i64 b, .int .i64 e] (.d (.int .i64 (dvN a b e))) := by
  refine ok64.pcon (Nat.le_of_ble_eq_true rfl) trivial ?_
  obtain ⟨p0, p1⟩ := absW_pos hb hb0 hb1
  generalize hT : dvN a b e = T
  unfold dvN at hT
  simp only [go_sem, ir64, Nat.reduceAdd, Nat.reduceEqDiff, Nat.reduceBEq, Nat.reduceLeDiff, reduceCtorEq, ↓reduceIte]
  refine wps_call rfl ((walk58 a).call trivial) trivial ?_
  simp only [go_sem, Nat.reduceAdd, Nat.reduceEqDiff, Nat.reduceBEq, Nat.reduceLeDiff, reduceCtorEq, ↓reduceIte]
  refine wps_call rfl ((walk58 b).call trivial) trivial ?_
  simp only [go_sem, Nat.reduceAdd, Nat.reduceEqDiff, Nat.reduceBEq, Nat.reduceLeDiff, reduceCtorEq, ↓reduceIte]
  generalize absW a = a1 at *
  generalize absW b = b1 at *
  generalize hF0 : dv1 64 b1 e = F at *
  refine wpc_loop (fun r st => ∃ (k : Nat) (x y : Int), r = k ∧ 0 < x ∧ x ≤ 99999999999999999 ∧ -60 ≤ y ∧ y ≤ 60 ∧ (y < 0 → -y ≤ k) ∧ F = dv1 k x y ∧
    st = ⟨[(0, .d (.int .i64 a1)), (1, .d (.int .i64 x)), (2, .d (.int .i64 y))], []⟩) ?_ ?_
  · refine ⟨_, _, Wk.less ?_, 64, b1, e, rfl, p0, by omega, he0, he1, by omega, hF0.symm, rfl⟩
    simp [go_sem]
  · rintro r st ⟨k, x, y, hr, hx0, hx1, hy0, hy1, hyk, hinv, rfl⟩
    simp only [go_sem, Nat.reduceAdd, Nat.reduceEqDiff, Nat.reduceBEq, Nat.reduceLeDiff, reduceCtorEq, ↓reduceIte]
    refine scQ_pure (decide (x ≤ 3999999999999996)) (fun _ => ?_) ?_
    · simp only [go_sem, Nat.reduceAdd, Nat.reduceEqDiff, Nat.reduceBEq, Nat.reduceLeDiff, reduceCtorEq, ↓reduceIte]
    simp only [go_sem, Nat.reduceAdd, Nat.reduceEqDiff, Nat.reduceBEq, Nat.reduceLeDiff, reduceCtorEq, ↓reduceIte]
    refine ⟨fun hc => ?_, fun hc => ?_⟩
    · cases k with
      | zero => simp at hc; omega
      | succ k =>
        rw [dv1, if_pos hc] at hinv
        have hc' : y < 0 ∧ x ≤ 3999999999999996 := by simpa using hc
        have w1 : IntKind.i64.wrap (x * 10) = x * 10 := wrap64 (by omega) (by omega)
        have w2 : IntKind.i64.wrap (y + 1) = y + 1 := wrap64 (by omega) (by omega)
        rw [w1, w2] at hinv
        refine ⟨k, _, by omega, Wk.less ?_, k, x * 10, y + 1, rfl, by omega, by omega, by omega, by omega, by omega, hinv, rfl⟩
        simp [go_sem, w1, w2]
    · have hF : F = (x, y) := by
        rw [hinv]
        cases k with
        | zero => rfl
        | succ k => rw [dv1, if_neg (by rw [hc]; exact Bool.false_ne_true)]
      rw [hF] at hT
      simp only at hT
      try simp only [go_sem, Nat.reduceAdd, Nat.reduceEqDiff, Nat.reduceBEq, Nat.reduceLeDiff, reduceCtorEq, ↓reduceIte]
      refine ⟨fun hd => ?_, fun hd => ?_⟩
      · rw [if_pos hd] at hT
        rw [hT]
      rw [if_neg (by rw [hd]; exact Bool.false_ne_true)] at hT
      have hxne : x ≠ 0 := by omega
      try simp only [go_sem, Nat.reduceAdd, Nat.reduceEqDiff, Nat.reduceBEq, Nat.reduceLeDiff, reduceCtorEq, ↓reduceIte]
      refine ⟨hxne, hxne, ?_⟩
      generalize IntKind.i64.wrap (a1.tdiv x) = q0 at *
      generalize a1.tmod x = r0 at *
      generalize hG0 : dv2 64 x q0 r0 y = G at *
      refine wpc_loop (fun r st => ∃ (k : Nat) (q z y' : Int), r = k ∧ -60 ≤ y' ∧ y' ≤ 60 ∧ (y' > 0 → y' ≤ k) ∧ G = dv2 k x q z y' ∧
        st = ⟨[(1, .d (.int .i64 x)), (2, .d (.int .i64 y')), (7, .d (.int .i64 q)), (8, .d (.int .i64 z))], []⟩) ?_ ?_
      · refine ⟨_, _, Wk.less ?_, 64, q0, r0, y, rfl, hy0, hy1, by omega, hG0.symm, rfl⟩
        simp [go_sem]
      · rintro r st ⟨k, q, z, y', hr, hz0, hz1, hzk, hinv2, rfl⟩
        simp only [go_sem, Nat.reduceAdd, Nat.reduceEqDiff, Nat.reduceBEq, Nat.reduceLeDiff, reduceCtorEq, ↓reduceIte]
        refine scQ_pure (decide (q ≤ 999999999999999)) (fun _ => ?_) ?_
        · simp only [go_sem, Nat.reduceAdd, Nat.reduceEqDiff, Nat.reduceBEq, Nat.reduceLeDiff, reduceCtorEq, ↓reduceIte]
        simp only [go_sem, Nat.reduceAdd, Nat.reduceEqDiff, Nat.reduceBEq, Nat.reduceLeDiff, reduceCtorEq, ↓reduceIte]
        refine ⟨fun hc => ?_, fun hc => ?_⟩
        · cases k with
          | zero => simp at hc; omega
          | succ k =>
            rw [dv2, if_pos hc] at hinv2
            have hc' : y' > 0 ∧ q ≤ 999999999999999 := by simpa using hc
            have w2 : IntKind.i64.wrap (y' - 1) = y' - 1 := wrap64 (by omega) (by omega)
            rw [w2] at hinv2
            refine ⟨hxne, hxne, k, _, by omega, Wk.less ?_, k, _, _, y' - 1, rfl, by omega, by omega, by omega, hinv2, rfl⟩
            simp [go_sem, w2]
        · have hF2 : G = (q, z) := by
            rw [hinv2]
            cases k with
            | zero => rfl
            | succ k => rw [dv2, if_neg (by rw [hc]; exact Bool.false_ne_true)]
          rw [hF2] at hT
          simp only [rndN] at hT
          try simp only [go_sem, Nat.reduceAdd, Nat.reduceEqDiff, Nat.reduceBEq, Nat.reduceLeDiff, reduceCtorEq, ↓reduceIte]
          refine scQ_pure (IntKind.i64.wrap (2 * z) == x && q.tmod 2 == 1) (fun _ => ?_) ?_
          · simp only [go_sem, Nat.reduceAdd, Nat.reduceEqDiff, Nat.reduceBEq, Nat.reduceLeDiff, reduceCtorEq, ↓reduceIte]
            refine scQ_pure (q.tmod 2 == 1) (fun _ => ?_) ?_
            · simp only [go_sem, Nat.reduceAdd, Nat.reduceEqDiff, Nat.reduceBEq, Nat.reduceLeDiff, reduceCtorEq, ↓reduceIte]
              try decide
            simp only [go_sem, Nat.reduceAdd, Nat.reduceEqDiff, Nat.reduceBEq, Nat.reduceLeDiff, reduceCtorEq, ↓reduceIte]
          simp only [go_sem, Nat.reduceAdd, Nat.reduceEqDiff, Nat.reduceBEq, Nat.reduceLeDiff, reduceCtorEq, ↓reduceIte]
          refine ⟨fun hg => ?_, fun hg => ?_⟩
          · rw [if_pos hg] at hT
            rw [hT]
          · rw [if_neg (by rw [hg]; exact Bool.false_ne_true)] at hT
            rw [hT]
def divN (a b : Int × Int) (s : Int) : (Int × Int) × Int :=
  if fstN [a, b] ≠ 0 then ((0, 0), fstN [a, b]) else if decide (s < 0) || decide (s > 12) then ((0, 0), 2) else if b.1 == 0 then ((0, 0), 15)
  else fitN (if !(decide (a.1 < 0) == decide (b.1 < 0)) then IntKind.i64.wrap (0 - dvN a.1 b.1 (IntKind.i64.wrap (IntKind.i64.wrap (s + b.2) - a.2))) else dvN a.1 b.1 (IntKind.i64.wrap (IntKind.i64.wrap (s + b.2) - a.2))) s
theorem walk24 (a b : Int × Int) (s : Int) : PCon Tryz.prog 24 [encN a, encN b, .int .i64 s] (.tup [.d (encN (divN a b s).1), .d (.int .i64 (divN a b s).2)]) := by
  refine ok24.pcon (Nat.le_of_ble_eq_true rfl) (by simp [inTR, idsIn, idsInL]) ?_
  have h59 := (walk59 [a, b] (by simp)).call trivial
  simp only [List.map_cons, List.map_nil, encN] at h59
  generalize hT : divN a b s = T
  unfold divN at hT
  by_cases hf : fstN [a, b] = 0
  · have hv := fstN_ok hf
    have ha := chkN_ok (hv a (by simp))
    have hb := chkN_ok (hv b (by simp))
    rw [if_neg (by simp [hf])] at hT
    rw [hf] at h59
    simp only [go_sem, ir24, encN, Nat.reduceAdd, Nat.reduceEqDiff, Nat.reduceBEq, Nat.reduceLeDiff, reduceCtorEq, ↓reduceIte]
    refine ⟨by simp, wps_call rfl h59 trivial ?_⟩
    have q0 : ((0 : Int) != 0) = false := rfl
    simp only [go_sem, q0, Nat.reduceAdd, Nat.reduceEqDiff, Nat.reduceBEq, Nat.reduceLeDiff, reduceCtorEq, ↓reduceIte]
    refine scQ_pure (decide (s > 12)) (fun _ => ?_) ?_
    · simp only [go_sem, Nat.reduceAdd, Nat.reduceEqDiff, Nat.reduceBEq, Nat.reduceLeDiff, reduceCtorEq, ↓reduceIte]
    simp only [go_sem, Nat.reduceAdd, Nat.reduceEqDiff, Nat.reduceBEq, Nat.reduceLeDiff, reduceCtorEq, ↓reduceIte]
    refine ⟨fun h1 => ?_, fun h1 => ⟨fun h2 => ?_, fun h2 => ?_⟩⟩
    · rw [if_pos h1] at hT
      rw [← hT]
    · rw [if_neg (by rw [h1]; exact Bool.false_ne_true), if_pos h2] at hT
      rw [← hT]
    rw [if_neg (by rw [h1]; exact Bool.false_ne_true), if_neg (by rw [h2]; exact Bool.false_ne_true)] at hT
    have hs : 0 ≤ s ∧ s ≤ 12 := by simp at h1; omega
    have hbne : b.1 ≠ 0 := by simpa using h2
    have w1 : IntKind.i64.wrap (s + b.2) = s + b.2 := wrap64 (by omega) (by omega)
    have w2 : IntKind.i64.wrap (s + b.2 - a.2) = s + b.2 - a.2 := wrap64 (by omega) (by omega)
    have c64 := (walk64 a.1 b.1 (s + b.2 - a.2) hbne hb.2.2.1 hb.2.2.2 (by omega) (by omega)).call trivial
    rw [w1, w2] at hT
    simp only [go_sem, w1, w2, Nat.reduceAdd, Nat.reduceEqDiff, Nat.reduceBEq, Nat.reduceLeDiff, reduceCtorEq, ↓reduceIte]
    refine wps_call rfl c64 trivial ?_
    generalize dvN a.1 b.1 (s + b.2 - a.2) = D at *
    simp only [go_sem, Nat.reduceAdd, Nat.reduceEqDiff, Nat.reduceBEq, Nat.reduceLeDiff, reduceCtorEq, ↓reduceIte]
    refine ⟨fun h3 => ?_, fun h3 => ?_⟩
    · rw [if_pos h3] at hT
      refine wps_call rfl ((walk65 _ s).call (by simp [pureR])) trivial ?_
      rw [hT]
      simp only [go_sem, encN, Nat.reduceAdd, Nat.reduceEqDiff, Nat.reduceBEq, Nat.reduceLeDiff, reduceCtorEq, ↓reduceIte]
    · rw [if_neg (by rw [h3]; exact Bool.false_ne_true)] at hT
      refine wps_call rfl ((walk65 _ s).call (by simp [pureR])) trivial ?_
      rw [hT]
      simp only [go_sem, encN, Nat.reduceAdd, Nat.reduceEqDiff, Nat.reduceBEq, Nat.reduceLeDiff, reduceCtorEq, ↓reduceIte]
  · rw [if_pos hf] at hT
    rw [← hT]
    have q0 : (fstN [a, b] != 0) = true := by simp [hf]
    generalize fstN [a, b] = F at *
    simp only [go_sem, ir24, encN, Nat.reduceAdd, Nat.reduceEqDiff, Nat.reduceBEq, Nat.reduceLeDiff, reduceCtorEq, ↓reduceIte]
    refine ⟨by simp, wps_call rfl h59 trivial ?_⟩
    simp only [go_sem, q0, Nat.reduceAdd, Nat.reduceEqDiff, Nat.reduceBEq, Nat.reduceLeDiff, reduceCtorEq, ↓reduceIte]
end Go.Proofs
