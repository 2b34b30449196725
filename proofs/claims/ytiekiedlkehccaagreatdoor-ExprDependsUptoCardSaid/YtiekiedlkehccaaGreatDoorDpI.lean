/- Part I of a proof. -/
import Derived.Test.YtiekiedlkehccaaGreatDoorDpH
import Derived.Test.YtiekiedlkehccaaGreatDoorDpC
import Derived.Test.YtiekiedlkehccaaGreatDoorDpA
import Derived.Lib.RuneLoops
import Derived.WalkKit
import Derived.Test.YtiekiedlkehccaaGreatDoorDpD
import Derived.Laws.CopyRow
import Derived.Shelf.Spec.SlicesInsertGrow
import Derived.Laws.AppendOwn
import Derived.Shelf.Slices.Clone
import Derived.Test.YtiekiedlkehccaaGreatDoorProg
import Derived.Laws.IdiomStrings
set_option linter.unusedVariables false
set_option linter.unusedSimpArgs false
set_option linter.unusedSectionVars false
set_option maxRecDepth 100000
namespace Go.Proofs
open Go Av
theorem walk414 (n lo hi : Int) : PT 414 [.int .i64 n, .int .i64 lo, .int .i64 hi] (.d (.bool (decide (n ≥ lo) && decide (n ≤ hi)))) := by
 refine ok414.pc ?_;simp only [go_sem, ir414, simprocAttr];refine sq (decide (n ≤ hi)) ?_ ?_
 ·exact zz trivial
 exact zz trivial
def bef (y : Int) : Int := 365 * (y - 1) + (y - 1) / 4 - (y - 1) / 100 + (y - 1) / 400
theorem walk415 (y : Int) (h0 : 1 ≤ y) (h1 : y ≤ 10000) : PT 415 [.int .i64 y] (.d (.int .i64 (bef y))) := by
 refine ok415.pc ?_;have w1 : IntKind.i64.wrap (y - 1) = y - 1 := wrap64 oM oM;have w2 : IntKind.i64.wrap (365 * (y - 1)) = 365 * (y - 1) := wrap64 oM oM;have d1 : (y - 1).tdiv 4 = (y - 1) / 4 := Int.tdiv_eq_ediv_of_nonneg oM;have d2 : (y - 1).tdiv 100 = (y - 1) / 100 := Int.tdiv_eq_ediv_of_nonneg oM;have d3 : (y - 1).tdiv 400 = (y - 1) / 400 := Int.tdiv_eq_ediv_of_nonneg oM;have v1 : IntKind.i64.wrap ((y - 1) / 4) = (y - 1) / 4 := wrap64 oM oM;have v2 : IntKind.i64.wrap ((y - 1) / 100) = (y - 1) / 100 := wrap64 oM oM;have v3 : IntKind.i64.wrap ((y - 1) / 400) = (y - 1) / 400 := wrap64 oM oM;have x1 : IntKind.i64.wrap (365 * (y - 1) + (y - 1) / 4) = 365 * (y - 1) + (y - 1) / 4 := wrap64 oM oM;have x2 : IntKind.i64.wrap (365 * (y - 1) + (y - 1) / 4 - (y - 1) / 100) = 365 * (y - 1) + (y - 1) / 4 - (y - 1) / 100 := wrap64 oM oM;have x3 : IntKind.i64.wrap (365 * (y - 1) + (y - 1) / 4 - (y - 1) / 100 + (y - 1) / 400) = 365 * (y - 1) + (y - 1) / 4 - (y - 1) / 100 + (y - 1) / 400 := wrap64 oM oM;simp only [go_sem, ir415, w1, w2, d1, d2, d3, v1, v2, v3, x1, x2, x3, Nat.reduceAdd, Nat.reduceEqDiff, Nat.reduceBEq, Nat.reduceLeDiff, reduceCtorEq, ↓reduceIte]
 try exact ⟨dC, dC, dC, rfl⟩
def leapB (y : Int) : Bool := ((decide (y ≥ 1) && decide (y ≤ 9999)) && (y % 4 == 0)) && ((y % 100 != 0) || (y % 400 == 0))
theorem walk424 (y : Int) (h0 : 0 ≤ y) : PT 424 [.int .i64 y] (.d (.bool (leapB y))) := by
 refine ok424.pc ?_;have c414 := (walk414 y 1 9999).call trivial;have d1 : y.tmod 4 = y % 4 := Int.tmod_eq_emod_of_nonneg h0;have d2 : y.tmod 100 = y % 100 := Int.tmod_eq_emod_of_nonneg h0;have d3 : y.tmod 400 = y % 400 := Int.tmod_eq_emod_of_nonneg h0;unfold leapB;simp only [go_sem, ir424, Nat.reduceAdd, Nat.reduceEqDiff, Nat.reduceBEq, Nat.reduceLeDiff, reduceCtorEq, ↓reduceIte];refine wc c414 ?_;refine sq (y % 4 == 0) ?_ ?_
 ·simp only [go_sem, d1, Nat.reduceAdd, Nat.reduceEqDiff, Nat.reduceBEq, Nat.reduceLeDiff, reduceCtorEq, ↓reduceIte]
  try exact ⟨dC, rfl⟩
  try decide
 refine zz ?_;refine sq ((y % 100 != 0) || (y % 400 == 0)) ?_ ?_
 ·simp only [go_sem, d2, Nat.reduceAdd, Nat.reduceEqDiff, Nat.reduceBEq, Nat.reduceLeDiff, reduceCtorEq, ↓reduceIte];refine ⟨dC, scQ_pure (y % 400 == 0) (fun _ => ?_) ?_⟩
  ·simp only [go_sem, d3, Nat.reduceAdd, Nat.reduceEqDiff, Nat.reduceBEq, Nat.reduceLeDiff, reduceCtorEq, ↓reduceIte]
   try exact ⟨dC, rfl⟩
   try decide
  exact zz trivial
 exact zz trivial
def mtab : List Int := [31, 28, 31, 30, 31, 30, 31, 31, 30, 31, 30, 31]
def mdI (y : Int) (m : Nat) : Int := if ((m : Int) == 2) && leapB y then 29 else mtab.getD (m - 1) 0
theorem walk416 (y : Int) (m : Nat) (h0 : 0 ≤ y) (h1 : 1 ≤ m) (h2 : m ≤ 12) : PT 416 [.int .i64 y, .int .i64 m] (.d (.int .i64 (mdI y m))) := by
 refine ok416.pc ?_;have c424 := (walk424 y h0).call trivial;generalize hT : mdI y m = T;unfold mdI at hT;simp only [go_sem, ir416, simprocAttr];refine sq (leapB y) ?_ ?_
 ·refine zz ?_;refine wc c424 trivial
 refine zz ?_;apply ik <;> intro h
 ·rw [if_pos h] at hT;rw [← hT]
 ·rw [if_neg (nF h)] at hT;have w1 : IntKind.i64.wrap ((m : Int) - 1) = ((m - 1 : Nat) : Int) := by rw [wrap64 oM oM]; omega
  rw [← hT];simp only [go_sem, w1, Int.toNat_natCast, simprocAttr];obtain ⟨k, rfl⟩ : ∃ k, m = k + 1 := ⟨m - 1, oM⟩;have hk : k < 12 := oM;simp only [Nat.add_sub_cancel]
  match k, hk with
  | 0, _ => exact ⟨dC, rfl⟩
  | 1, _ => exact ⟨dC, rfl⟩
  | 2, _ => exact ⟨dC, rfl⟩
  | 3, _ => exact ⟨dC, rfl⟩
  | 4, _ => exact ⟨dC, rfl⟩
  | 5, _ => exact ⟨dC, rfl⟩
  | 6, _ => exact ⟨dC, rfl⟩
  | 7, _ => exact ⟨dC, rfl⟩
  | 8, _ => exact ⟨dC, rfl⟩
  | 9, _ => exact ⟨dC, rfl⟩
  | 10, _ => exact ⟨dC, rfl⟩
  | 11, _ => exact ⟨dC, rfl⟩
def msum (y : Int) : Nat → Int
 | 0 => 0
 | m + 1 => msum y m + mdI y (m + 1)
theorem mdI_bd (y : Int) (m : Nat) (h1 : 1 ≤ m) (h2 : m ≤ 12) : 28 ≤ mdI y m ∧ mdI y m ≤ 31 := by
 unfold mdI;split
 ·omega
 ·match m, h1, h2 with
  | 1, _, _ | 2, _, _ | 3, _, _ | 4, _, _ | 5, _, _ | 6, _, _ | 7, _, _ | 8, _, _ | 9, _, _ | 10, _, _ | 11, _, _ | 12, _, _ => decide
theorem msum12 (y : Int) : msum y 12 = 365 + if leapB y then 1 else 0 := by
 simp only [msum, mdI, mtab];cases leapB y <;> decide
theorem bef_succ (y : Int) (h0 : 1 ≤ y) (h1 : y ≤ 9999) : bef (y + 1) = bef y + msum y 12 := by
 rw [msum12];unfold bef;have e : y + 1 - 1 = y := oM;rw [e];cases hl : leapB y with
 | true =>
  simp only [leapB, Bool.and_eq_true, Bool.or_eq_true, beq_iff_eq, bne_iff_ne, decide_eq_true_eq] at hl;simp only [if_true];omega
 | false =>
  simp only [leapB, Bool.and_eq_false_iff, Bool.or_eq_false_iff, beq_eq_false_iff_ne, bne_eq_false_iff_eq, decide_eq_false_iff_not] at hl;simp only [Bool.false_eq_true, if_false];omega
theorem bef_mono {a b : Int} (h : a ≤ b) : bef a ≤ bef b := by
 unfold bef;omega
theorem year_ex (n : Int) (h0 : 0 ≤ n) : ∀ (k : Nat), 1 ≤ k → n < bef (k + 1) → ∃ y : Nat, 1 ≤ y ∧ y ≤ k ∧ bef y ≤ n ∧ n < bef ((y : Int) + 1)
 | 0, h, _ => by omega
 | k + 1, _, h => by
  by_cases hb : bef ((k + 1 : Nat) : Int) ≤ n
  ·exact ⟨k + 1, oM, oM, hb, h⟩
  ·by_cases hk : k = 0
   ·subst hk;have h1 : bef ((0 + 1 : Nat) : Int) = 0 := dC;rw [h1] at hb;exact absurd h0 hb
   ·obtain ⟨y, h1, h2, h3, h4⟩ := year_ex n h0 k oM (by push_cast at hb ⊢; omega);exact ⟨y, h1, oM, h3, h4⟩
theorem month_ex (y r : Int) (h0 : 0 ≤ r) : ∀ (k : Nat), 1 ≤ k → r < msum y k → ∃ m : Nat, 1 ≤ m ∧ m ≤ k ∧ msum y (m - 1) ≤ r ∧ r < msum y m
 | 0, h, _ => by omega
 | k + 1, _, h => by
  by_cases hb : msum y k ≤ r
  ·exact ⟨k + 1, oM, oM, hb, h⟩
  ·by_cases hk : k = 0
   ·subst hk; exact absurd h0 hb
   ·obtain ⟨m, h1, h2, h3, h4⟩ := month_ex y r h0 k oM oM;exact ⟨m, h1, oM, h3, h4⟩
theorem msum_mono (y : Int) {a : Nat} : ∀ {b : Nat}, a ≤ b → b ≤ 12 → msum y a ≤ msum y b
 | 0, h, _ => by
  have : a = 0 := oM;subst this; exact Int.le_refl _
 | b + 1, h, hb => by
  by_cases e : a = b + 1
  ·subst e; exact Int.le_refl _
  ·have := msum_mono y (a := a) (b := b) oM oM;have := (mdI_bd y (b + 1) oM hb).1;simp only [msum];omega
theorem civ_ex (d : Int) : ∃ y m dd e : Int, PT 388 [.int .i64 d] (.tup [.d (.int .i64 y), .d (.int .i64 m), .d (.int .i64 dd), .d (.int .i64 e)]) ∧ (e = 0 → 1 ≤ y ∧ y ≤ 9999 ∧ 1 ≤ m ∧ m ≤ 12 ∧ 1 ≤ dd ∧ dd ≤ 31) := by
 have c414 := (walk414 d (-719162) 2932896).call trivial;cases hin : (decide (d ≥ -719162) && decide (d ≤ 2932896)) with
 | false =>
  rw [hin] at c414;refine ⟨0, 0, 0, 2, ?_, fun h => by cases h⟩;refine ok388.pc ?_;simp only [go_sem, ir388, Nat.reduceAdd, Nat.reduceEqDiff, Nat.reduceBEq, Nat.reduceLeDiff, reduceCtorEq, ↓reduceIte];refine wn c414 ?_;exact zz58 trivial
 | true =>
  rw [hin] at c414;simp only [Bool.and_eq_true, decide_eq_true_eq] at hin;generalize hn : d + 719162 = n;have n0 : 0 ≤ n := oM;have n1 : n ≤ 3652058 := oM;have w1 : IntKind.i64.wrap (d - -719162) = n := by rw [wrap64 oM oM]; omega
  have q1 : n.tdiv 365 = n / 365 := Int.tdiv_eq_ediv_of_nonneg n0;have q2 : IntKind.i64.wrap (n / 365) = n / 365 := wrap64 oM oM;have q3 : IntKind.i64.wrap (n / 365 + 1) = n / 365 + 1 := wrap64 oM oM;obtain ⟨y0, hy0, hy1, hy9⟩ : ∃ y0 : Nat, (if (9999 : Int) < n / 365 + 1 then (9999 : Int) else n / 365 + 1) = (y0 : Int) ∧ 1 ≤ y0 ∧ y0 ≤ 9999 := by
   refine ⟨(if (9999 : Int) < n / 365 + 1 then (9999 : Int) else n / 365 + 1).toNat, ?_, ?_, ?_⟩ <;> split <;> omega
  have hlt : n < bef ((y0 : Int) + 1) := by
   by_cases h : (9999 : Int) < n / 365 + 1
   ·rw [if_pos h] at hy0;rw [← hy0];have : bef (9999 + 1) = 3652059 := dC;omega
   ·rw [if_neg h] at hy0;rw [← hy0];unfold bef;omega
  obtain ⟨y, g1, g2, g3, g4⟩ := year_ex n n0 y0 hy1 hlt;rw [bef_succ y oM oM] at g4;obtain ⟨m, m1, m2, m3, m4⟩ := month_ex y (n - bef y) oM 12 oM oM;have hmd : msum y m = msum y (m - 1) + mdI y m := by
   obtain ⟨k, rfl⟩ : ∃ k, m = k + 1 := ⟨m - 1, oM⟩;rfl
  have hmb := mdI_bd y m m1 m2;have hb0 : 0 ≤ bef y := by unfold bef; omega
  refine ⟨y, m, n - bef y - msum y (m - 1) + 1, 0, ?_, fun _ => ⟨oM, oM, oM, oM, oM, oM⟩⟩;refine ok388.pc ?_;simp only [go_sem, ir388, Nat.reduceAdd, Nat.reduceEqDiff, Nat.reduceBEq, Nat.reduceLeDiff, reduceCtorEq, ↓reduceIte];refine wn c414 ?_;simp only [go_sem, Bool.not_true, w1, q1, q2, q3, hy0, Nat.reduceAdd, Nat.reduceEqDiff, Nat.reduceBEq, Nat.reduceLeDiff, reduceCtorEq, ↓reduceIte];refine ⟨dC, ?_⟩;refine wpc_loop (fun r s => ∃ c : Nat, y ≤ c ∧ c ≤ y0 ∧ r = c - y ∧ s = ⟨[(6, .d (.int .i64 n)), (2, .d (.int .i64 c))], []⟩) ?_ ?_
  ·exact ⟨_, _, Wk.refl _, y0, oM, Nat.le_refl _, rfl, rfl⟩
  ·rintro r s ⟨c, c1, c2, rfl, rfl⟩;have c415 := (walk415 c oM oM).call trivial;refine zz ?_;refine wn c415 ?_;by_cases hc : c = y
   ·subst hc;have hd : decide (bef (c : Int) > n) = false := sO;refine zz15 ?_;refine wn c415 ?_;have w2 : IntKind.i64.wrap (n - bef (c : Int)) = n - bef (c : Int) := wrap64 oM oM;simp only [go_sem, w2, Nat.reduceAdd, Nat.reduceEqDiff, Nat.reduceBEq, Nat.reduceLeDiff, reduceCtorEq, ↓reduceIte];refine wpc_loop (fun r s => ∃ k : Nat, 1 ≤ k ∧ k ≤ m ∧ r = m - k ∧ s = ⟨[(6, .d (.int .i64 (n - bef (c : Int) - msum c (k - 1)))), (2, .d (.int .i64 (c : Int))), (3, .d (.int .i64 (k : Int)))], []⟩) ?_ ?_
    ·refine ⟨_, _, Wk.less ?_, 1, Nat.le_refl _, m1, rfl, rfl⟩;have e0 : msum (c : Int) (1 - 1) = 0 := rfl;have e1 : ((1 : Nat) : Int) = 1 := rfl;simp only [go_sem, e0, e1, Int.sub_zero, Nat.reduceAdd, Nat.reduceEqDiff, Nat.reduceBEq, Nat.reduceLeDiff, reduceCtorEq, ↓reduceIte]
    ·rintro r s ⟨k, k1, k2, rfl, rfl⟩;have c416 := (walk416 c k oM k1 oM).call trivial;have hkb := mdI_bd c k k1 oM;have hks : msum c k = msum c (k - 1) + mdI c k := by
      obtain ⟨j, rfl⟩ : ∃ j, k = j + 1 := ⟨k - 1, oM⟩;rfl
     refine zz ?_;refine wn c416 ?_;by_cases hkm : k = m
     ·subst hkm;have hd : decide (n - bef (c : Int) - msum c (k - 1) ≥ mdI c k) = false := sO;have w3 : IntKind.i64.wrap (n - bef (c : Int) - msum c (k - 1) + 1) = n - bef (c : Int) - msum c (k - 1) + 1 := wrap64 oM oM;simp only [go_sem, hd, w3, Nat.reduceAdd, Nat.reduceEqDiff, Nat.reduceBEq, Nat.reduceLeDiff, reduceCtorEq, ↓reduceIte]
     ·have hmn := msum_mono (c : Int) (a := k) (b := m - 1) oM oM;have hm0 := msum_mono (c : Int) (a := 0) (b := k - 1) oM oM;have hd : decide (n - bef (c : Int) - msum c (k - 1) ≥ mdI c k) = true := sO;have hz : msum (c : Int) 0 = 0 := rfl;have w3 : IntKind.i64.wrap (n - bef (c : Int) - msum c (k - 1) - mdI c k) = n - bef (c : Int) - msum c (k + 1 - 1) := by
       rw [Nat.add_sub_cancel, hks, wrap64 oM oM]; omega
      refine zz15 ?_;refine wn c416 ?_;simp only [go_sem, w3, Nat.reduceAdd, Nat.reduceEqDiff, Nat.reduceBEq, Nat.reduceLeDiff, reduceCtorEq, ↓reduceIte];refine ⟨m - (k + 1), _, oM, Wk.less ?_, k + 1, oM, oM, rfl, rfl⟩;exact zz10 trivial
   ·have hm := bef_mono (a := (y : Int) + 1) (b := c) oM;rw [bef_succ y oM oM] at hm;have hd : decide (bef (c : Int) > n) = true := sO;have w2 : IntKind.i64.wrap ((c : Int) - 1) = ((c - 1 : Nat) : Int) := by rw [wrap64 oM oM]; omega
    simp only [go_sem, hd, w2, Nat.reduceAdd, Nat.reduceEqDiff, Nat.reduceBEq, Nat.reduceLeDiff, reduceCtorEq, ↓reduceIte];refine ⟨c - 1 - y, _, oM, Wk.refl _, c - 1, oM, oM, rfl, rfl⟩
def padS (n k : Int) : Str := rep0 (if k - ((Lib.itoa n).length : Int) > 0 then k - ((Lib.itoa n).length : Int) else 0) ++ Lib.itoa n
theorem padS_len {n k : Int} (h0 : 0 ≤ n) (h1 : n ≤ 1000000000) (k1 : k ≤ 10) : (padS n k).length ≤ 40 := by
 have := Lib.itoa_length_le n oM oM;unfold padS;simp only [rep0, List.length_append, List.length_replicate];split <;> omega
theorem walk389 (hrep : Rep0) (n k : Int) (h0 : 0 ≤ n) (h1 : n ≤ 1000000000) (k0 : 0 ≤ k) (k1 : k ≤ 10) : PT 389 [.int .i64 n, .int .i64 k] (.d (.str (padS n k))) := by
 refine ok389.pc ?_;have c100 := call100 n oM oM;have hil := Lib.itoa_length_le n oM oM;have hpl := padS_len h0 h1 k1;unfold padS at hpl ⊢;generalize Lib.itoa n = s at *;have w1 : IntKind.i64.wrap (k - (s.length : Int)) = k - (s.length : Int) := wrap64 oM oM;have hb : 0 ≤ (if k - (s.length : Int) > 0 then k - (s.length : Int) else 0) ∧ (if k - (s.length : Int) > 0 then k - (s.length : Int) else 0) ≤ 100 := by split <;> omega
 have c387 := hrep _ hb.1 hb.2;generalize hj : (if k - (s.length : Int) > 0 then k - (s.length : Int) else 0) = j at *;simp only [go_sem, ir389, simprocAttr];refine wn c100 ?_;simp only [go_sem, w1, hj, simprocAttr];refine wc c387 ?_
 first | omega | exact ⟨oM, trivial⟩
theorem day_ex (hrep : Rep0) (d : Int) : ∃ (s : Str) (e : Int), PT 340 [.int .i64 d] (.tup [.d (.str s), .d (.int .i64 e)]) ∧ s.length ≤ 200 := by
 obtain ⟨y, m, dd, e, c, hb⟩ := civ_ex d;have c388 := c.call (by simp [pureR]);by_cases he : e = 0
 ·obtain ⟨b1, b2, b3, b4, b5, b6⟩ := hb he;have cy := (walk389 hrep y 4 oM oM oM oM).call trivial;have cm := (walk389 hrep m 2 oM oM oM oM).call trivial;have cd := (walk389 hrep dd 2 oM oM oM oM).call trivial;have ly := padS_len (n := y) (k := 4) oM oM oM;have lm := padS_len (n := m) (k := 2) oM oM oM;have ld := padS_len (n := dd) (k := 2) oM oM oM;generalize padS y 4 = py at *;generalize padS m 2 = pm at *;generalize padS dd 2 = pd at *;have hz : (e != 0) = false := by simp [he]
  refine ⟨py ++ [45] ++ pm ++ [45] ++ pd, 0, ?_, (by first | omega | (simp only [List.length_append, List.length_cons, List.length_nil]; omega))⟩;refine ok340.pc ?_;simp only [go_sem, ir340, simprocAttr];refine wn c388 ?_;refine zz39 ?_;refine wc cy ?_;refine ⟨(by first | omega | (simp only [List.length_append, List.length_cons, List.length_nil]; omega)), wn cm ?_⟩;refine zz ?_;refine ⟨(by first | omega | (simp only [List.length_append, List.length_cons, List.length_nil]; omega)), (by first | omega | (simp only [List.length_append, List.length_cons, List.length_nil]; omega)), wn cd ?_⟩;refine zz ?_
  first | exact (by first | omega | (simp only [List.length_append, List.length_cons, List.length_nil]; omega)) | exact ⟨(by first | omega | (simp only [List.length_append, List.length_cons, List.length_nil]; omega)), trivial⟩
 ·have hz : (e != 0) = true := by simp [he]
  refine ⟨[], e, ?_, sP⟩;refine ok340.pc ?_;simp only [go_sem, ir340, simprocAttr];refine wn c388 ?_;exact zz39 trivial
theorem split_ex (d : Int) : ∃ x r e : Int, PT 390 [.int .i64 d] (.tup [.d (.int .i64 x), .d (.int .i64 r), .d (.int .i64 e)]) ∧ 0 ≤ r ∧ r < 86400000 := by
 have c414 := (walk414 d (-62135596800000) 253402300799999).call trivial;cases hin : (decide (d ≥ -62135596800000) && decide (d ≤ 253402300799999)) with
 | false =>
  rw [hin] at c414;refine ⟨0, 0, 2, ?_, oM, oM⟩;refine ok390.pc ?_;simp only [go_sem, ir390, Nat.reduceAdd, Nat.reduceEqDiff, Nat.reduceBEq, Nat.reduceLeDiff, reduceCtorEq, ↓reduceIte];refine wn c414 ?_;exact zz58 trivial
 | true =>
  rw [hin] at c414;simp only [Bool.and_eq_true, decide_eq_true_eq] at hin;generalize hn : IntKind.i64.wrap (d - -62135596800000) = n;have n0 : 0 ≤ n := by rw [← hn, wrap64 oM oM]; omega
  refine ⟨IntKind.i64.wrap (-719162 + IntKind.i64.wrap (n.tdiv 86400000)), n.tmod 86400000, 0, ?_, ?_, ?_⟩
  ·refine ok390.pc ?_;simp only [go_sem, ir390, Nat.reduceAdd, Nat.reduceEqDiff, Nat.reduceBEq, Nat.reduceLeDiff, reduceCtorEq, ↓reduceIte];refine wn c414 ?_;simp only [go_sem, hn, Bool.not_true, Nat.reduceAdd, Nat.reduceEqDiff, Nat.reduceBEq, Nat.reduceLeDiff, reduceCtorEq, ↓reduceIte]
   first | exact ⟨dC, dC, rfl⟩ | exact ⟨dC, dC⟩ | decide
  ·rw [Int.tmod_eq_emod_of_nonneg n0]; omega
  ·rw [Int.tmod_eq_emod_of_nonneg n0]; omega
theorem time_ex (hrep : Rep0) (d : Int) : ∃ (s : Str) (e : Int), PT 341 [.int .i64 d] (.tup [.d (.str s), .d (.int .i64 e)]) ∧ s.length ≤ 1000 := by
 obtain ⟨x, r, e, c, r0, r1⟩ := split_ex d;have c390 := c.call (by simp [pureR]);by_cases he : e = 0
 ·obtain ⟨s, e2, c2, hs⟩ := day_ex hrep x;have c340 := c2.call (by simp [pureR]);have hz : (e != 0) = false := by simp [he]
  by_cases he2 : e2 = 0
  ·have hz2 : (e2 != 0) = false := by simp [he2]
   have q1 : r.tdiv 1000 = r / 1000 := Int.tdiv_eq_ediv_of_nonneg r0;have q2 : IntKind.i64.wrap (r / 1000) = r / 1000 := wrap64 oM oM;have q3 : (r / 1000).tdiv 3600 = r / 1000 / 3600 := Int.tdiv_eq_ediv_of_nonneg oM;have q4 : IntKind.i64.wrap (r / 1000 / 3600) = r / 1000 / 3600 := wrap64 oM oM;have q5 : (r / 1000).tdiv 60 = r / 1000 / 60 := Int.tdiv_eq_ediv_of_nonneg oM;have q6 : IntKind.i64.wrap (r / 1000 / 60) = r / 1000 / 60 := wrap64 oM oM;have q7 : (r / 1000 / 60).tmod 60 = r / 1000 / 60 % 60 := Int.tmod_eq_emod_of_nonneg oM;have q8 : (r / 1000).tmod 60 = r / 1000 % 60 := Int.tmod_eq_emod_of_nonneg oM;have q9 : r.tmod 1000 = r % 1000 := Int.tmod_eq_emod_of_nonneg r0;have ch := (walk389 hrep (r / 1000 / 3600) 2 oM oM oM oM).call trivial;have cm := (walk389 hrep (r / 1000 / 60 % 60) 2 oM oM oM oM).call trivial;have cs := (walk389 hrep (r / 1000 % 60) 2 oM oM oM oM).call trivial;have ck := (walk389 hrep (r % 1000) 3 oM oM oM oM).call trivial;have lh := padS_len (n := r / 1000 / 3600) (k := 2) oM oM oM;have lm := padS_len (n := r / 1000 / 60 % 60) (k := 2) oM oM oM;have ls := padS_len (n := r / 1000 % 60) (k := 2) oM oM oM;have lk := padS_len (n := r % 1000) (k := 3) oM oM oM;generalize padS (r / 1000 / 3600) 2 = ph at *;generalize padS (r / 1000 / 60 % 60) 2 = pm at *;generalize padS (r / 1000 % 60) 2 = ps at *;generalize padS (r % 1000) 3 = pk at *;by_cases hk : r % 1000 = 0
   ·have hz3 : (r % 1000 != 0) = false := by simp [hk]
    refine ⟨s ++ ([84] ++ ph ++ [58] ++ pm ++ [58] ++ ps) ++ [90], 0, ?_, (by first | omega | (simp only [List.length_append, List.length_cons, List.length_nil]; omega))⟩;refine ok341.pc ?_;simp only [go_sem, ir341, Nat.reduceAdd, Nat.reduceEqDiff, Nat.reduceBEq, Nat.reduceLeDiff, reduceCtorEq, ↓reduceIte];refine wn c390 ?_;refine zz39 ?_;refine wn c340 ?_;refine zz82 ?_;refine ⟨dC, dC, wn ch ?_⟩;simp only [go_sem, q5, q6, q7, Nat.reduceAdd, Nat.reduceEqDiff, Nat.reduceBEq, Nat.reduceLeDiff, reduceCtorEq, ↓reduceIte];refine ⟨(by first | omega | (simp only [List.length_append, List.length_cons, List.length_nil]; omega)), (by first | omega | (simp only [List.length_append, List.length_cons, List.length_nil]; omega)), dC, dC, wn cm ?_⟩;simp only [go_sem, q8, Nat.reduceAdd, Nat.reduceEqDiff, Nat.reduceBEq, Nat.reduceLeDiff, reduceCtorEq, ↓reduceIte];refine ⟨(by first | omega | (simp only [List.length_append, List.length_cons, List.length_nil]; omega)), (by first | omega | (simp only [List.length_append, List.length_cons, List.length_nil]; omega)), dC, wn cs ?_⟩;simp only [go_sem, q9, hz3, Nat.reduceAdd, Nat.reduceEqDiff, Nat.reduceBEq, Nat.reduceLeDiff, reduceCtorEq, ↓reduceIte];exact ⟨(by first | omega | (simp only [List.length_append, List.length_cons, List.length_nil]; omega)), (by first | omega | (simp only [List.length_append, List.length_cons, List.length_nil]; omega)), dC, (by first | omega | (simp only [List.length_append, List.length_cons, List.length_nil]; omega))⟩
   ·have hz3 : (r % 1000 != 0) = true := by simp [hk]
    refine ⟨s ++ ([84] ++ ph ++ [58] ++ pm ++ [58] ++ ps) ++ ([46] ++ pk) ++ [90], 0, ?_, (by first | omega | (simp only [List.length_append, List.length_cons, List.length_nil]; omega))⟩;refine ok341.pc ?_;simp only [go_sem, ir341, Nat.reduceAdd, Nat.reduceEqDiff, Nat.reduceBEq, Nat.reduceLeDiff, reduceCtorEq, ↓reduceIte];refine wn c390 ?_;refine zz39 ?_;refine wn c340 ?_;refine zz82 ?_;refine ⟨dC, dC, wn ch ?_⟩;simp only [go_sem, q5, q6, q7, Nat.reduceAdd, Nat.reduceEqDiff, Nat.reduceBEq, Nat.reduceLeDiff, reduceCtorEq, ↓reduceIte];refine ⟨(by first | omega | (simp only [List.length_append, List.length_cons, List.length_nil]; omega)), (by first | omega | (simp only [List.length_append, List.length_cons, List.length_nil]; omega)), dC, dC, wn cm ?_⟩;simp only [go_sem, q8, Nat.reduceAdd, Nat.reduceEqDiff, Nat.reduceBEq, Nat.reduceLeDiff, reduceCtorEq, ↓reduceIte];refine ⟨(by first | omega | (simp only [List.length_append, List.length_cons, List.length_nil]; omega)), (by first | omega | (simp only [List.length_append, List.length_cons, List.length_nil]; omega)), dC, wn cs ?_⟩;simp only [go_sem, q9, hz3, Nat.reduceAdd, Nat.reduceEqDiff, Nat.reduceBEq, Nat.reduceLeDiff, reduceCtorEq, ↓reduceIte];refine ⟨(by first | omega | (simp only [List.length_append, List.length_cons, List.length_nil]; omega)), (by first | omega | (simp only [List.length_append, List.length_cons, List.length_nil]; omega)), dC, dC, wn ck ?_⟩;refine zz ?_;exact ⟨(by first | omega | (simp only [List.length_append, List.length_cons, List.length_nil]; omega)), (by first | omega | (simp only [List.length_append, List.length_cons, List.length_nil]; omega)), (by first | omega | (simp only [List.length_append, List.length_cons, List.length_nil]; omega))⟩
  ·have hz2 : (e2 != 0) = true := by simp [he2]
   refine ⟨[], e2, ?_, sP⟩;refine ok341.pc ?_;simp only [go_sem, ir341, Nat.reduceAdd, Nat.reduceEqDiff, Nat.reduceBEq, Nat.reduceLeDiff, reduceCtorEq, ↓reduceIte];refine wn c390 ?_;refine zz39 ?_;refine wn c340 ?_;simp only [go_sem, hz2, Nat.reduceAdd, Nat.reduceEqDiff, Nat.reduceBEq, Nat.reduceLeDiff, reduceCtorEq, ↓reduceIte]
 ·have hz : (e != 0) = true := by simp [he]
  refine ⟨[], e, ?_, sP⟩;refine ok341.pc ?_;simp only [go_sem, ir341, Nat.reduceAdd, Nat.reduceEqDiff, Nat.reduceBEq, Nat.reduceLeDiff, reduceCtorEq, ↓reduceIte];refine wn c390 ?_;exact zz39 trivial
def resT (s : Str) (e x : Int) : Val × Int := if e != 0 then (zeroV, failE x e) else (.mk 4 0 0 s [] [], x)
theorem resT_flat (s : Str) (e x : Int) : (resT s e x).1.list = [] ∧ (resT s e x).1.fields = [] := by
 unfold resT;split <;> exact ⟨rfl, rfl⟩
theorem resT_len (s : Str) (e x : Int) : (resT s e x).1.text.length ≤ s.length := by
 unfold resT;split
 ·exact Nat.zero_le _
 ·exact Nat.le_refl _
theorem txtR_len (p : Int × Int) : (txtR p).1.length ≤ 100 := by
 unfold txtR;split
 ·simp
 ·rename_i h;exact txtN_len (sX h)
theorem boolS_len (b : Bool) : (boolS b).length ≤ 5 := by cases b <;> decide
theorem findV_sz (v : Val) (l : List Part) (h : szV v ≤ 1000000) : szVs (findV v l).1 ≤ 1000000 := by
 unfold findV;split
 ·simp [szVs]
 ·cases e : walkN l [v] with
  | none => simp [findR, szVs]
  | some now =>
   have := walkN_sz l e;simp only [szVs] at this;simp only [findR];split
   ·simp [szVs]
   ·show szVs now ≤ _;omega
def badN (i : Int) (v : Val) : Bool := (((i == 0) && (v.kind != 2)) || !isN v) || decide ((ofN v).2 > i)
noncomputable def sumM (e : Exp) (env : Val) (x : Int) : (Val × Int) :=
 let F := findV env (parseS e.text).1
 if F.2 != 0 then (zeroV, failE x F.2) else if F.1.any (badN e.int) then (zeroV, failE x 18)
 else if decide (((F.1.length : Nat) : Int) > 256) then (zeroV, failE x 9)
 else if e.int == 0 then (numV true (sumF (F.1.map ofN)).1 (sumF (F.1.map ofN)).2, numE (sumF (F.1.map ofN)).2 x)
 else if (sumF (F.1.map ofN)).2 != 0 then (zeroV, failE x (sumF (F.1.map ofN)).2)
 else (numV false (addN (sumF (F.1.map ofN)).1 (0, e.int)).1 (addN (sumF (F.1.map ofN)).1 (0, e.int)).2, numE (addN (sumF (F.1.map ofN)).1 (0, e.int)).2 x)
theorem parseL_val : ∀ (n : Nat) (s : Str) {ps : List Part}, parseL n s = some ps → ∀ p ∈ ps, validP p = true
 | 0, s, ps, h => by cases h; intro p hp; cases hp
 | n + 1, s, ps, h => by
  simp only [parseL] at h;split at h
  ·cases h; intro p hp; cases hp
  split at h
  ·cases h
  rename_i hv;split at h
  ·rename_i qs hq;cases h;intro p hp;rcases List.mem_cons.1 hp with rfl | hp
   ·simp only [Bool.or_eq_true, Bool.not_eq_true', not_or, Bool.not_eq_false] at hv;exact hv.2
   ·exact parseL_val n _ hq p hp
  ·cases h
theorem parseS_val (s : Str) : ∀ p ∈ (parseS s).1, validP p = true := by
 unfold parseS;split
 ·intro p hp; cases hp
 split
 ·intro p hp; cases hp
 split
 ·rename_i ps h;split
  ·intro p hp; cases hp
  ·exact parseL_val _ _ h
 ·intro p hp; cases hp
theorem parseS_ln (s : Str) : (parseS s).1.length ≤ 16 := by
 unfold parseS;split
 ·simp
 split
 ·simp
 split
 ·split
  ·simp
  ·rename_i h; simp at h ⊢; omega
 ·simp
theorem walk191 (e : Exp) (env : Val) (x : Int) (ht : e.text.length ≤ 68719476736) (hsz : szV env ≤ 1000000) (c77 : CT 77 [.d (.list 3 ((parseS e.text).1.map encP))] [] (.d (.bool (evP (parseS e.text).1))) []) :
  MCon 191 [encE e] env x (.d (encV (sumM e env x).1)) (sumM e env x).2 := by
 refine ok191.co (k := false) (mO_closed _ _ _) trivial ?_;have c26 := (walk26 e.text ht).call (by simp [pureR]);have hpl := parseS_ln e.text;have hpv := parseS_val e.text;have c76 := (walk76 env (parseS e.text).1 oM (fun p hp => by have := (validP_bd (hpv p hp)).1; omega) oM c77).call (by simp [pureR]);have hfz := findV_sz env (parseS e.text).1 hsz;generalize hT : sumM e env x = T;unfold sumM at hT;simp only at hT;generalize parseS e.text = PS at *;generalize findV env PS.1 = F at *;have hfl := szVs_len F.1;have cf := fun y => (walk190 env x y).to trivial
 rw [encV_eq env] at c76;rw [encE_eq, encV_eq T.1];simp only [go_sem, ir191, mC, List.map_cons, List.map_nil, Nat.reduceAdd, Nat.reduceEqDiff, Nat.reduceBEq, Nat.reduceLeDiff, reduceCtorEq, ↓reduceIte];refine wn c26 ?_;refine zz1 ?_;refine wn c76 ?_;refine zz1 ?_;apply ik <;> intro h0
 ·rw [if_pos h0] at hT;rw [← hT];refine wn (cf F.2) ?_;generalize zeroV = z at *;rw [encV_eq];refine zz1 ?_;exact zf
 rw [if_neg (nF h0)] at hT
 try refine zz59 ?_
 refine ⟨(by intro x hx; cases hx), ?_⟩;refine wpc_loop (fun n s => ∃ k : Nat, k ≤ F.1.length ∧ n = F.1.length - k ∧ (∀ (i : Nat) (h : i < F.1.length), i < k → badN e.int F.1[i] = false) ∧
  s = ⟨[(0, .ref 1000 0), (3, .ref 3 0), (4, .ref 4 0), (9, .ms 70 k), (37, .d (.list 6 (F.1.map encV))), (38, .d (.int .i64 F.1.length)), (39, .d (.int .i64 k))],
   [(1000, .box [.d (.int .i64 env.kind), .d (.int .i64 env.int), .d (.int .i64 env.scale), .d (.str env.text), .d (.list 6 (env.list.map encV)), .d (.list 7 (env.fields.map encF)), .d (.int .i64 x)]),
    (3, .box [.d (.int .i64 e.op), .d (.int .i64 e.int), .d (.str e.text), .d (.list 6 (e.value.map encV)), .d (.list 5 (e.args.map encE))]),
    (4, .box [.d (.int .i64 0), .d (.int .i64 0), .d (.int .i64 0), .d (.str []), .d (.nil 6), .d (.nil 7)]),
    (70, .row k 2 (((F.1.take k).map ofN).map encN))]⟩) ?_ ?_
 ·refine ⟨_, _, (Wk.nilT 9 70 2 rfl rfl dC).trans (Wk.less ?_), 0, Nat.zero_le _, rfl, (by intro i h hi; omega), rfl⟩;refine zz75 ?_;exact ⟨rfl, rfl⟩
 ·rintro n s ⟨k, hk, rfl, hinv, rfl⟩;by_cases hlt : k < F.1.length
  ·have hx := nth_encV hlt;have hd := dT hlt;have c261 := (walk261 F.1[k]).call trivial;have c263 := (walk263 F.1[k]).call trivial;have c33 := cf 18;rw [encV_eq] at c261 c263;simp only [encN] at c263;refine zz8 ?_;refine ⟨oM, ?_⟩;refine ⟨F.1[k].kind != 2, _, [([], []), ([11], []), ([], [])], rfl, fun h => ?_, fun _ => rfl, ?_⟩
   ·refine zz ?_;exact zf
   try refine zz ?_
   refine ⟨!isN F.1[k], _, [([11], []), ([], []), ([], [])], rfl, fun h => ?_, fun _ => rfl, ?_⟩
   ·try refine zz ?_
    refine wpsL_call rfl c261 trivial ?_;refine zz ?_;exact zf
   try refine zz ?_
   refine ⟨decide ((ofN F.1[k]).2 > e.int), _, [([11], []), ([], []), ([], []), ([], []), ([3], []), ([], [])], rfl, fun h => ?_, fun _ => rfl, ?_⟩
   ·try refine zz ?_
    refine wpsL_call rfl c263 trivial ?_;refine zz ?_;exact zf
   refine zz ?_;have hbad : badN e.int F.1[k] = ((((e.int == 0) && (F.1[k].kind != 2)) || !isN F.1[k]) || decide ((ofN F.1[k]).2 > e.int)) := rfl;refine ⟨rfl, fun hf => ?_, fun hf => ?_⟩
   ·rw [← hbad] at hf;have : F.1.any (badN e.int) = true := by rw [List.any_eq_true]; exact ⟨_, List.getElem_mem hlt, hf⟩
    rw [if_pos this] at hT;rw [← hT];refine wn c33 ?_;generalize zeroV = z at *;rw [encV_eq];refine zz1 ?_;exact zf
   ·rw [← hbad] at hf
    try refine zz ?_
    refine wn c263 ?_;refine zz76 ?_;refine ⟨(by intro x hx; rcases List.mem_singleton.1 hx with rfl; rfl), oM, F.1.length - (k + 1), _, oM, Wk.less ?_, k + 1, oM, rfl, ?_, rfl⟩
    ·rw [List.take_succ_eq_append_getElem hlt, List.map_append, List.map_append];simp only [go_sem, wrap64s k oM, List.map_cons, List.map_nil, encN, Nat.reduceAdd, Nat.reduceEqDiff, Nat.reduceBEq, Nat.reduceLeDiff, reduceCtorEq, ↓reduceIte]
    ·intro i h1 hi;by_cases e : i = k
     ·subst e; exact hf
     ·exact hinv i h1 oM
  ·have hd := dF hlt;obtain rfl : k = F.1.length := oM;have hno : F.1.any (badN e.int) = false := by
    rw [List.any_eq_false];intro v hv;obtain ⟨i, hi, rfl⟩ := List.getElem_of_mem hv;rw [hinv i hi hi];decide
   rw [if_neg (nF hno)] at hT;refine zz77 ?_;have c9 := cf 9;have c264 := PCon.callFr (i := 70) (v := F.1.length) (walk264 (F.1.map ofN) sO) (by simp [pureR]);apply ik <;> intro h1
   ·rw [if_pos h1] at hT;rw [← hT];refine wn c9 ?_;generalize zeroV = z at *;rw [encV_eq];refine zz25 ?_;exact zf
   rw [if_neg (nF h1)] at hT;generalize sumF (F.1.map ofN) = S at *;simp only [encN] at c264
   try refine zz25 ?_
   apply ik <;> intro h2
   ·rw [if_pos h2] at hT;have c265 := (walk265 true S.1 S.2 env x).to trivial;simp only [encN] at c265;rw [← hT];generalize numV true S.1 S.2 = z at *;refine wn c264 ?_;refine zz25 ?_;refine wn c265 ?_;rw [encV_eq];refine zz25 ?_;exact zf
   rw [if_neg (nF h2)] at hT
   try refine zz25 ?_
   refine wn c264 ?_;refine zz25 ?_;apply ik <;> intro h3
   ·rw [if_pos h3] at hT;rw [← hT];have c3 := cf S.2;refine wn c3 ?_;generalize zeroV = z at *;rw [encV_eq];refine zz25 ?_;exact zf
   rw [if_neg (nF h3)] at hT;have c266 := (walk266 S.1 (0, e.int)).call (by simp [pureR]);have c265 := (walk265 false (addN S.1 (0, e.int)).1 (addN S.1 (0, e.int)).2 env x).to trivial;generalize addN S.1 (0, e.int) = A at *;simp only [encN] at c266 c265;rw [← hT];generalize numV false A.1 A.2 = z at *
   try refine zz25 ?_
   refine wn c266 ?_;refine zz25 ?_;refine wn c265 ?_;rw [encV_eq];refine zz25 ?_;exact zf
theorem findV_szv (v : Val) (l : List Part) : szVs (findV v l).1 ≤ szV v := by
 unfold findV;split
 ·simp [szVs]
 ·cases e : walkN l [v] with
  | none => simp [findR, szVs]
  | some now =>
   have := walkN_sz l e;simp only [szVs] at this;simp only [findR];split
   ·simp [szVs]
   ·show szVs now ≤ _;omega
def getV (v : Val) (l : List Part) : Val × Int :=
 if (findV v l).2 != 0 then (zeroV, (findV v l).2) else if evP l then (.mk 8 0 0 [] (findV v l).1 [], 0) else ((((findV v l).1)[0]?).getD zeroV, 0)
theorem findV_ne {v : Val} {l : List Part} (h : ((findV v l).2 != 0) = false) (h2 : evP l = false) : 0 < (findV v l).1.length := by
 simp only [bne_eq_false_iff_eq] at h;unfold findV at h ⊢;split at h
 ·rename_i h3;simp only at h;rw [h] at h3; cases h3
 ·rename_i h3;rw [if_neg h3];cases e : walkN l [v] with
  | none => rw [e] at h; cases h
  | some now =>
   rw [e] at h;simp only [findR] at h ⊢;split at h
   ·cases h
   ·rename_i h4;rw [if_neg h4];simp only [h2, Bool.not_false, Bool.and_true, beq_iff_eq] at h4;show 0 < now.length;omega
theorem walk28 (v : Val) (l : List Part) (hl : l.length ≤ 68719476736) (hn : ∀ p ∈ l, p.name.length ≤ 68719476736) (hsz : szV v ≤ 2000000) (c77 : CT 77 [.d (.list 3 (l.map encP))] [] (.d (.bool (evP l))) []) :
  PT 28 [encV v, .list 3 (l.map encP)] (.tup [.d (encV (getV v l).1), .d (.int .i64 (getV v l).2)]) := by
 refine ok28.pc ?_;have c76 := (walk76 v l hl hn hsz c77).call (by simp [pureR]);have hne := @findV_ne v l;generalize hT : getV v l = T;unfold getV at hT;generalize findV v l = F at *;rw [encV_eq v] at c76;rw [encV_eq v, encV_eq T.1];simp only [go_sem, ir28, simprocAttr];refine wc c76 ?_;apply ik <;> intro h0
 ·rw [if_pos h0] at hT;rw [← hT];rfl
 rw [if_neg (nF h0)] at hT
 try refine zz ?_
 refine wc c77 ?_;apply ik <;> intro h1
 ·rw [if_pos h1] at hT;rw [← hT];rfl
 rw [if_neg (nF h1)] at hT;have h2 := hne h0 h1;have hx := nth_encV h2;have e0 : Int.toNat 0 = 0 := rfl;rw [List.getElem?_eq_getElem h2] at hT;simp only [Option.getD_some] at hT;rw [← hT]
 try simp only [go_sem, hx, e0, List.length_map, simprocAttr]
 first | exact ⟨oM, rfl⟩ | omega
def ptB (p : Int) : Bool := (decide (p ≥ 0) && decide (p ≤ 1114111)) && (decide (p < 55296) || decide (p > 57343))
def txtL (l : List Int) : Str × Int := if l.all ptB then (l.flatMap fun p => Lib.encodeRune p, 0) else ([], 2)
def Txt0 : Prop := ∀ l : List Int, l.length ≤ 17179869184 → CT 271 [.d (.list 1 (l.map (.int .i64)))] [] (.tup [.d (.str (txtL l).1), .d (.int .i64 (txtL l).2)]) []
theorem encRune_len (n : Int) : (Lib.encodeRune n).length ≤ 4 := by
 have := Lib.runeCells_le n;rw [Lib.runeCells_length] at this;exact this.2
theorem flat_len : ∀ l : List Int, (l.flatMap fun p => Lib.encodeRune p).length ≤ 4 * l.length
 | [] => by simp
 | p :: r => by
  have := flat_len r;have := encRune_len p;simp only [List.flatMap_cons, List.length_append, List.length_cons];omega
theorem txtL_len (l : List Int) : (txtL l).1.length ≤ 4 * l.length := by
 unfold txtL;split
 ·exact flat_len l
 ·simp
def loI (f : Int) (n : Nat) : Int := if (n : Int) < f then (n : Int) else f
def slcM (a f t : Val) (x : Int) : Val × Int :=
 if x != 0 then (zeroV, x) else if ((a.kind != 4) || (f.kind != 2)) || (t.kind != 2) then (zeroV, failE x 18)
 else if (pntR a.text).2 != 0 then (zeroV, failE x 16)
 else if decide (f.int < 0) || decide (f.int > t.int) then (zeroV, failE x 2)
 else (.mk 4 0 0 (txtL (((pntR a.text).1.drop (loI f.int (pntR a.text).1.length).toNat).take (loI t.int (pntR a.text).1.length - loI f.int (pntR a.text).1.length).toNat)).1 [] [], x)
theorem pntR_len (s : Str) : (pntR s).1.length ≤ s.length := by
 unfold pntR;split
 ·have := ptsL_len (s.length + 1) s 0;exact Nat.le_trans this oM
 ·simp
theorem slcM_len (a f t : Val) (x : Int) : (slcM a f t x).1.text.length ≤ 4 * a.text.length ∧ (slcM a f t x).1.list = [] ∧ (slcM a f t x).1.fields = [] := by
 unfold slcM;split
 ·exact ⟨Nat.zero_le _, rfl, rfl⟩
 split
 ·exact ⟨Nat.zero_le _, rfl, rfl⟩
 split
 ·exact ⟨Nat.zero_le _, rfl, rfl⟩
 split
 ·exact ⟨Nat.zero_le _, rfl, rfl⟩
 ·refine ⟨?_, rfl, rfl⟩;have h1 := txtL_len (((pntR a.text).1.drop (loI f.int (pntR a.text).1.length).toNat).take (loI t.int (pntR a.text).1.length - loI f.int (pntR a.text).1.length).toNat);have h2 := pntR_len a.text;simp only [List.length_take, List.length_drop] at h1;show (txtL _).1.length ≤ _;omega
theorem walk196 (ht : Txt0) (a f t env : Val) (x : Int) (hal : a.text.length ≤ 17179869184) : MCon 196 [encV a, encV f, encV t] env x (.d (encV (slcM a f t x).1)) (slcM a f t x).2 := by
 refine ok196.co (k := false) (mO_closed _ _ _) trivial ?_;have c33 := (walk190 env x 18).to trivial;have c17 := (walk190 env x 16).to trivial;have c2 := (walk190 env x 2).to trivial;have c270 := (walk270 a.text oM).call (by simp [pureR]);have hpl := pntR_len a.text;generalize hT : slcM a f t x = T;unfold slcM at hT;generalize pntR a.text = N at *;rw [encV_eq a, encV_eq f, encV_eq t, encV_eq T.1];simp only [go_sem, ir196, mC, List.map_cons, List.map_nil, simprocAttr];apply ik <;> intro h0
 ·rw [if_pos h0] at hT;rw [← hT]
  try exact ⟨rfl, rfl⟩
 rw [if_neg (nF h0)] at hT
 try refine zz1 ?_
 refine sq (f.kind != 2) ?_ ?_
 ·exact zz1 trivial
 refine zz1 ?_;refine sq (t.kind != 2) ?_ ?_
 ·exact zz1 trivial
 refine zz1 ?_;apply ik <;> intro h1
 ·rw [if_pos h1] at hT;rw [← hT];refine wn c33 ?_;generalize zeroV = z at *;rw [encV_eq];refine zz1 ?_;exact zf
 rw [if_neg (nF h1)] at hT
 try refine zz1 ?_
 refine wn c270 ?_;refine zz1 ?_;apply ik <;> intro h2
 ·rw [if_pos h2] at hT;rw [← hT];refine wn c17 ?_;generalize zeroV = z at *;rw [encV_eq];refine zz1 ?_;exact zf
 rw [if_neg (nF h2)] at hT
 try refine zz1 ?_
 refine sq (decide (f.int > t.int)) ?_ ?_
 ·exact zz1 trivial
 refine zz1 ?_;apply ik <;> intro h3
 ·rw [if_pos h3] at hT;rw [← hT];refine wn c2 ?_;generalize zeroV = z at *;rw [encV_eq];refine zz1 ?_;exact zf
 rw [if_neg (nF h3)] at hT;simp only [Bool.or_eq_false_iff, decide_eq_false_iff_not] at h3;have hlo : loI f.int N.1.length = if (N.1.length : Int) < f.int then (N.1.length : Int) else f.int := rfl;have hhi : loI t.int N.1.length = if (N.1.length : Int) < t.int then (N.1.length : Int) else t.int := rfl;have hb : 0 ≤ loI f.int N.1.length ∧ loI f.int N.1.length ≤ loI t.int N.1.length ∧ loI t.int N.1.length ≤ N.1.length := by
  rw [hlo, hhi];refine ⟨?_, ?_, ?_⟩ <;> split <;> (try split) <;> omega
 try simp only [go_sem, mC, List.length_map, ← hlo, ← hhi, List.map_cons, List.map_nil, simprocAttr]
 generalize loI f.int N.1.length = lo at *;generalize loI t.int N.1.length = hi at *;have c271 := ht ((N.1.drop lo.toNat).take (hi - lo).toNat) (by simp only [List.length_take, List.length_drop]; omega);have c216 := (walk216 (txtL ((N.1.drop lo.toNat).take (hi - lo).toNat)).1).call trivial;generalize txtL ((N.1.drop lo.toNat).take (hi - lo).toNat) = X at *;rw [List.map_take, List.map_drop] at c271;rw [← hT];refine ⟨⟨oM, oM, oM⟩, wn c271 ?_⟩;refine zz1 ?_;refine wn c216 ?_;rw [encV_eq];refine zz1 ?_;exact zf
end Go.Proofs
namespace Go.Proofs
open Go Av Go.RowKit Go.Shelf
variable {k : Nat}
set_option maxHeartbeats 1600000 in
set_option maxRecDepth 1000000 in
theorem pt_calls (p : Int) (w : World) : Calls Tryz.prog 334 #[.int .i64 p] w fun e w' => e = .returned (.bool (ptB p)) ∧ w' = w := by
 go_enter Tryz.func334, Tryz.ntmps334
 go_wp2
 all_goals go_ret
 all_goals refine ⟨?_, rfl⟩
 all_goals congr 2
 all_goals unfold ptB
 all_goals simp only [ge_iff_le, gt_iff_lt]
 all_goals first | (simp; done) | (simp; omega) | (simp [*]; done) | (simp [*]; omega)
def enL (l : List Int) : List UInt8 := l.flatMap fun p => Lib.encodeRune p
theorem enL_take (l : List Int) (h : k < l.length) : enL (l.take (k + 1)) = enL (l.take k) ++ Lib.encodeRune (l.getD k 0) := by
 rw [List.take_add_one, List.getElem?_eq_getElem h];simp only [enL, List.getD_eq_getElem?_getD, List.getElem?_eq_getElem h, Option.toList_some, List.flatMap_append, List.flatMap_cons, List.flatMap_nil, List.append_nil, Option.getD_some]
theorem enL_len (l : List Int) : (enL l).length ≤ 4 * l.length := flat_len l
theorem all_take {l : List Int} (h : k < l.length) (ha : (l.take k).all ptB = true) (hp : ptB (l.getD k 0) = true) : (l.take (k + 1)).all ptB = true := by
 rw [List.take_add_one, List.getElem?_eq_getElem h, List.all_append, ha];simpa [List.getD, List.getElem?_eq_getElem h] using hp
theorem all_not {l : List Int} (h : k < l.length) (hp : ptB (l.getD k 0) = false) : l.all ptB = false := by
 have hm : l.getD k 0 ∈ l := by simp [List.getD, List.getElem?_eq_getElem h]
 cases e : l.all ptB with
 | false => rfl
 | true => rw [List.all_eq_true.1 e _ hm] at hp; cases hp
theorem ptB_rng {p : Int} (h : ptB p = true) : 0 ≤ p ∧ p ≤ 1114111 := by
 unfold ptB at h;simp only [ge_iff_le, gt_iff_lt, Bool.and_eq_true, Bool.or_eq_true, decide_eq_true_eq] at h;exact h.1
set_option maxHeartbeats 6400000 in
set_option maxRecDepth 1000000 in
theorem txt_calls (a : Option Addr) (cap : Nat) (l : List Int) (w : World) (hl : l.length ≤ 17179869184)
  (hr : ∀ k, k < l.length → ∃ b o, a = some ⟨b, o, none⟩ ∧ b < w.heap.size ∧ w.cell? ⟨b, o + k, none⟩ = some (.int .i64 (l.getD k 0))) :
  Calls Tryz.prog 271 #[.slice a l.length cap] w fun e w' => e = .returned (.tuple #[.string ⟨(txtL l).1.toArray⟩, .int .i64 (txtL l).2]) ∧ Below w.heap.size w w' := by
 go_enter Tryz.func271, Tryz.ntmps271
 go_wp2
 go_loopw [9] (fun i wr => ∃ k : Nat, k ≤ l.length ∧ i = .int .i64 k ∧ Lib.IsBuilderF 382 5 w.heap.size w.heap.size (Lib.byteCells (enL (l.take k))) wr ∧ Below w.heap.size w wr ∧ (l.take k).all ptB = true) (fun i wr => l.length - (intOf i).toNat)
 case atStart =>
  exact ⟨0, Nat.zero_le _, rfl, Lib.IsBuilderF.of (Lib.fresh_isBuilder 382 5 w), (Below.refl _ w).alloc (Nat.le_refl _) _, rfl⟩
 case round =>
  obtain ⟨k, hk, rfl, hI, hbw, hall⟩ := hrel;have hsz := hbw.size;by_cases hlt : k < l.length
  ·obtain ⟨b, o, rfl, hb, hcell⟩ := hr k hlt;have hc2 := (hbw.cell hb).trans hcell;generalize hpp : l.getD k 0 = p at hc2;have hP := pt_calls p wr;cases hp : ptB p with
   | false =>
    rw [hp] at hP
    go_wp2_with (go_at_call 334; refine hP.mono ?_; rintro e W1 ⟨rfl, rfl⟩)
    go_wp2
    go_ret2
    rw [← hpp] at hp;have e := all_not hlt hp;refine ⟨?_, hbw⟩;unfold txtL;rw [e];rfl
   | true =>
    rw [hp] at hP;have hpr := ptB_rng hp;have hel := enL_len (l.take k);have htl : (l.take k).length = k := sO
    go_wp2_with (first
     | (go_at_call 334; refine hP.mono ?_; rintro e W1 ⟨rfl, rfl⟩)
     | (go_at_call 335; refine (Any.Builder_WriteRune_k Tryz.lays168 Tryz.Builder_Extra_168 w.heap.size w.heap.size _ _ oM oM _ hI (by rw [Lib.byteCells_length]; omega) hsz).mono ?_; rintro e W2 ⟨rfl, hI2, b2, k2⟩))
    go_wp2
    go_roundw
    case rel =>
     refine ⟨k + 1, hlt, rfl, .inr ?_, hbw.trans b2, ?_⟩
     ·rw [enL_take l hlt, Lib.byteCells_append, Lib.byteCells_encodeRune, hpp];exact hI2
     ·rw [← hpp] at hp;exact all_take hlt hall hp
    case measure =>
     simp [intOf]; omega
  ·have hkl : k = l.length := oM;subst hkl
   go_wp2_with (go_at_call 336; refine (Any.Builder_String_any_k Tryz.lays169 Tryz.Builder_Extra_169 w.heap.size w.heap.size (enL (l.take l.length)) _ hI hsz).mono ?_; rintro e W1 ⟨rfl, hI2, b2, k2⟩)
   go_wp2
   go_ret2
   rw [List.take_length] at *;refine ⟨?_, hbw.trans b2⟩;unfold txtL;rw [hall];rfl
theorem flat_int (l : List Int) : flat (l.map (.int .i64)) = l.map (.int .i64) := by
 induction l with
 | nil => rfl
 | cons a r ih => rw [List.map_cons, flat_cons, ih]; rfl
theorem holds_lt {w : World} {b o : Nat} {v : Value} (h : w.cell? ⟨b, o + k, none⟩ = some v) : b < w.heap.size := by
 rcases Nat.lt_or_ge b w.heap.size with h' | h'
 ·exact h'
 ·simp [World.cell?, Array.getElem?_eq_none h'] at h
theorem txtL_code (l : List Int) : IntKind.i64.min ≤ (txtL l).2 ∧ (txtL l).2 ≤ IntKind.i64.max := by
 unfold txtL;split
 ·show IntKind.i64.min ≤ (0 : Int) ∧ (0 : Int) ≤ IntKind.i64.max;exact ⟨dC, dC⟩
 ·exact ⟨dC, dC⟩
theorem txt0_ok : Txt0 := by
 intro l hl;refine CallOK.of_calls (ds := [.list 1 (l.map (.int .i64))]) (hasT Tryz.func271 kR kR) ?_;intro A w vs hsz hv;obtain ⟨x, rfl⟩ := one_arg hsz;have hx := hv 0 _ x rfl rfl;have hlen := txtL_len l;have key : ∃ (a : Option Addr) (cap : Nat), x = .slice a l.length cap ∧ ∀ k, k < l.length → ∃ b o, a = some ⟨b, o, none⟩ ∧ b < w.heap.size ∧ w.cell? ⟨b, o + k, none⟩ = some (.int .i64 (l.getD k 0)) := by
  generalize hq : l.map (Dat.int .i64) = q at hx;cases hx with
  | emp _ a cap =>
   have : l = [] := sX hq;subst this;exact ⟨a, cap, rfl, fun k hk => absurd hk sP⟩
  | list _ _ b o n cap vs hn hA hlc hc h1 hs1 hh hvl hvs =>
   subst hq;rw [List.length_map] at hn;subst hn;refine ⟨some ⟨b, o, none⟩, cap, rfl, fun k hk => ?_⟩;rw [flat_int] at hvl hvs;rw [List.length_map] at hvl;have hk' : k < vs.length := oM;have e1 : vs[k]? = some vs[k] := List.getElem?_eq_getElem hk';have hcell := hh k _ e1;have hr := hvs k (.int .i64 (l.getD k 0)) vs[k] (by rw [List.getElem?_map, List.getElem?_eq_getElem hk]; simp [List.getD, List.getElem?_eq_getElem hk]) e1;generalize vs[k] = v at *;cases hr;exact ⟨b, o, rfl, holds_lt hcell, hcell⟩
 obtain ⟨a, cap, rfl, hr⟩ := key;refine (txt_calls a cap l w hl hr).mono ?_;rintro e w' ⟨rfl, hb⟩;exact ⟨_, rfl, hb, fun β H => vrep_two (.str _ oM) (.int _ _ (txtL_code l))⟩
end Go.Proofs
namespace Av
open Go
theorem run_copy_rowK {P : Program} (w : World) (dT sT ty elem : TypeId) (g o dLen dCap : Nat) (a : Addr) (sLen sCap n sz : Nat) (cur : Array Value) (t : TypeId) (cs : List Value)
  (hu : P.underlying dT = some (.slice elem)) (hs : (P.info? elem).map (·.size) = some sz)
  (hg : w.heap[g]? = some (.cells cur t (0, 0))) (hn : Nat.min sLen dLen = n) (hcl : cs.length = n * sz)
  (hsrc : ∀ j v, cs[j]? = some v → w.cell? (a.add j) = some v) (hfit : o + cs.length ≤ cur.size) (h1 : ∀ v ∈ cs, v.oneCell' = true) :
  (Builtin.copy_ #[dT, sT] ty #[.slice (some ⟨g, o, none⟩) dLen dCap, .slice (some a) sLen sCap]).run P w =
   .ok (goInt n) (w.setRow g (cur.toList.take o ++ cs ++ cur.toList.drop (o + cs.length)).toArray) := by
 have hl := run_loadCells_list (P := P) w a cs hsrc;have hst := run_storeCells_at P g o t cs 0 cur w hg (sX hfit) h1;cases hq : P.info? elem with
 | none => simp [hq] at hs
 | some i =>
  have hi : i.size = sz := by simpa [hq] using hs
  simp [Builtin.copy_, run_underlying hu, Builtin.lenOf, Builtin.firstCells, Go.sizeOf, Go.typeInfo, hq, hi, hn, ← hcl, hl, hst]
end Av
namespace Go.Proofs
open Go Av Go.RowKit Go.Shelf
variable {w W : World} {x : Go.Obj}
theorem run_overlaps_row {P : Program} (w : World) (tS tR e : TypeId) (ht : P.underlying tS = some (.slice e)) (size : Nat) (hz : ∀ w, (Go.sizeOf e).run P w = .ok size w)
  (a b : Addr) (la ca lb cb : Nat) (hne : a.block ≠ b.block) (tA tB : TypeId) (kA kB : Nat)
  (hsa : w.shape? a.block = some (tA, kA)) (hsb : w.shape? b.block = some (tB, kB)) (hkA : kA ≠ 0)
  (hfb : w.frozen? b = false) (hfe : w.frozen? { block := b.block, off := kB } = false) :
  (Extern.SlicesOverlaps.overlaps #[tS, tS] #[tR] #[.slice (some a) la ca, .slice (some b) lb cb]).run P w = .ok (.bool false) w := by
 have hnb : (a.block != b.block) = true := sX hne;have hnb' : (a.block == b.block) = false := sX hne;change Sem.run P (α := Value) (do
  let some t := (#[tS, tS] : Array TypeId)[0]? | stuck "slices.overlaps: no parameter types"
  let .slice elem ← underlying t | stuck "slices.overlaps: slice type expected"
  let size ← sizeOf elem
  match (some a : Option Addr), (some b : Option Addr) with
  | some a, some b =>
   if la = 0 ∨ lb = 0 ∨ size = 0 then pure (Value.bool false)
   else if a.block != b.block && (← frozen a) && (← frozen b) then unsupported .addressObserved
   else do
    if a.block != b.block then do
     noView a; noView b
     if ← mayBeOne a b then return Value.bool ((← choose (.extern "sameAddr.stringBytes" 2)) == 1)
    pure (Value.bool (a.block == b.block && a.off < b.off + lb * size && b.off < a.off + la * size))
  | _, _ => pure (Value.bool false)) w = _
 by_cases h0 : la = 0 ∨ lb = 0 ∨ size = 0
 ·simp [run_underlying ht, hz, h0]
 ·cases kA with
  | zero => exact absurd rfl hkA
  | succ kA =>
   cases h1 : w.frozen? a <;> cases h2 : w.frozen? { block := a.block, off := kA + 1 } <;>
    simp [run_underlying ht, hz, h0, hnb, hnb', frozen, noView, viewAt, mayBeOne, stringish, shape, Sem.run, hsa, hsb, hfb, hfe, h1, h2]
theorem add_drop {cur : Array Value} {g j o : Nat} {cs : List Value} {v : Value} {t : TypeId} (hg : w.heap[g]? = some (.cells cur t (0, 0))) (h : (cur.toList.drop o)[j]? = some v) : w.cell? ⟨g, o + j, none⟩ = some v := by
 rw [List.getElem?_drop] at h;simp [World.cell?, hg] at h ⊢;exact h
theorem take_get {α : Type} {l : List α} {m j : Nat} {v : α} (h : (l.take m)[j]? = some v) : l[j]? = some v := by
 rw [List.getElem?_take] at h;split at h
 ·exact h
 ·cases h
theorem mem_get {α : Type} {l : List α} {v : α} (h : v ∈ l) : ∃ j : Nat, l[j]? = some v := List.getElem?_of_mem h
set_option maxHeartbeats 6400000 in
set_option maxRecDepth 1000000 in
theorem ins_room (g n c i vb vo vc : Nat) (cur : Array Value) (t : TypeId) (ys : List Value) (w : World) (hi : i < n) (hroom : n + 1 ≤ c) (hn63 : n ≤ 1000000000) (hg : w.heap[g]? = some (.cells cur t (0, 0))) (hcs : cur.size = c * 7) (hvb : vb ≠ g)
  (hyl : ys.length = 7) (hys : ∀ j v, ys[j]? = some v → w.cell? ⟨vb, vo + j, none⟩ = some v) (h1v : ∀ v ∈ ys, v.oneCell' = true) (h1c : ∀ j v, j < n * 7 → cur[j]? = some v → v.oneCell' = true)
  (tA : TypeId) (kA : Nat) (hsa : w.shape? vb = some (tA, kA)) (hkA : kA ≠ 0) :
  Calls Tryz.prog 162 #[.slice (some ⟨g, 0, none⟩) n c, .int .i64 i, .slice (some ⟨vb, vo, none⟩) 1 vc] w fun e w' =>
   e = .returned (.slice (some ⟨g, 0, none⟩) (n + 1) c) ∧ w' = w.drew.setRow g (cur.toList.take (i * 7) ++ ys ++ ((cur.toList.drop (i * 7)).take ((n - i) * 7) ++ cur.toList.drop ((n + 1) * 7))).toArray := by
 have hz2 : ¬ ((i : Int) = (n : Int)) := oM;have hw1 : IntKind.i64.wrap ((i : Int) + 1) = (i : Int) + 1 := by rw [IntKind.wrap_i64]; omega
 have hw2 : IntKind.i64.wrap ((n : Int) + 1) = (n : Int) + 1 := by rw [IntKind.wrap_i64]; omega
 have hb1 : (0 : Int) ≤ (i : Int) + 1 := oM;have hin : i ≤ n := oM;have htn : ((i : Int) + 1).toNat = i + 1 := oM;have hb2 : ¬ (c = i + 1) := oM;have hb3 : (i : Int) ≤ (n : Int) + 1 := oM;have hb4 : ¬ (c = i) := oM;have hsb : w.shape? g = some (t, c * 7) := by simp [World.shape?, hg, hcs]
 have hfr : ∀ j, w.frozen? ⟨g, j, none⟩ = false := fun j => by simp [World.frozen?, hg]
 have hsz : (Tryz.prog.info? 113).map (·.size) = some 7 := kR;have hov : ∀ lb cb, (callFunc 237 #[.slice (some ⟨vb, vo, none⟩) 1 vc, .slice (some ⟨g, (i + 1) * 7, none⟩) lb cb]).run Tryz.prog w = .ok (.value (.bool false)) w := fun lb cb => by
  rw [run_callFunc_extern Tryz.func237 kR kR kR (e := Extern.SlicesOverlaps.overlaps #[28, 28] #[4]) kR,
   run_overlaps_row w 28 4 113 Tryz.underlying28 7 Tryz.sizeOf113 ⟨vb, vo, none⟩ ⟨g, (i + 1) * 7, none⟩ 1 vc lb cb hvb tA t kA (c * 7) hsa hsb hkA (hfr _) (hfr _)]
  rfl
 obtain ⟨cs, hcs0⟩ : ∃ cs, cs = (cur.toList.drop (i * 7)).take ((n - i) * 7) := ⟨_, rfl⟩;have hcl : cs.length = (n - i) * 7 := by rw [hcs0, List.length_take, List.length_drop, Array.length_toList, hcs]; omega
 obtain ⟨R1, hR1⟩ : ∃ R1 : List Value, R1 = cur.toList.take ((i + 1) * 7) ++ cs ++ cur.toList.drop ((i + 1) * 7 + cs.length) := ⟨_, rfl⟩;have hcp1 : ∀ ty dl dc sl sc, Nat.min sl dl = n - i → (Builtin.copy_ #[28, 28] ty #[.slice (some ⟨g, (i + 1) * 7, none⟩) dl dc, .slice (some ⟨g, i * 7, none⟩) sl sc]).run Tryz.prog w.drew = .ok (goInt ((n - i : Nat) : Int)) (w.drew.setRow g R1.toArray) := fun ty dl dc sl sc hm => by
  rw [hR1];refine run_copy_rowK w.drew 28 28 ty 113 g ((i + 1) * 7) dl dc ⟨g, i * 7, none⟩ sl sc (n - i) 7 cur t cs Tryz.underlying28 hsz hg hm hcl ?_ (by rw [hcl, hcs]; omega) ?_
  ·intro j v hj;rw [hcs0] at hj;rw [Addr.add_lit];exact add_drop (cs := []) hg (take_get hj)
  ·intro v hv;obtain ⟨j, hj⟩ := mem_get hv;have hjl := (List.getElem?_eq_some_iff.1 hj).1;rw [hcs0] at hj;have h2 := take_get hj;rw [List.getElem?_drop] at h2;exact h1c (i * 7 + j) v (by rw [hcl] at hjl; omega) (sX h2)
 have hR1l : R1.length = c * 7 := by
  rw [hR1];simp only [List.length_append, List.length_take, List.length_drop, Array.length_toList, hcs, hcl];omega
 have hR : R1.take (i * 7) ++ ys ++ R1.drop (i * 7 + ys.length) = cur.toList.take (i * 7) ++ ys ++ (cs ++ cur.toList.drop ((n + 1) * 7)) := by
  have e1 : R1.take (i * 7) = cur.toList.take (i * 7) := by
   rw [hR1, List.append_assoc, List.take_append_of_le_length (by rw [List.length_take, Array.length_toList, hcs]; omega), List.take_take];congr 1;omega
  have e2 : R1.drop (i * 7 + ys.length) = cs ++ cur.toList.drop ((n + 1) * 7) := by
   have e3 : (cur.toList.take ((i + 1) * 7)).length = i * 7 + ys.length := by rw [List.length_take, Array.length_toList, hcs, hyl]; omega
   rw [hR1, List.append_assoc, ← e3, List.drop_left, hcl];congr 2;omega
  rw [e1, e2]
 have hcp2 : ∀ ty dl dc, 1 ≤ dl → (Builtin.copy_ #[28, 28] ty #[.slice (some ⟨g, i * 7, none⟩) dl dc, .slice (some ⟨vb, vo, none⟩) 1 vc]).run Tryz.prog (w.drew.setRow g R1.toArray) = .ok (goInt ((1 : Nat) : Int)) (w.drew.setRow g (cur.toList.take (i * 7) ++ ys ++ (cs ++ cur.toList.drop ((n + 1) * 7))).toArray) := fun ty dl dc hd => by
  have h := run_copy_rowK (w.drew.setRow g R1.toArray) 28 28 ty 113 g (i * 7) dl dc ⟨vb, vo, none⟩ 1 vc 1 7 R1.toArray t ys Tryz.underlying28 hsz (setRow_heap w.drew g cur _ t (0, 0) hg) (by simp only [Nat.min_def]; split <;> omega) oM (fun j v hj => by rw [Addr.add_lit, cell_setRow_other _ _ _ _ hvb]; exact hys j v hj) (by simp only [List.size_toArray]; omega) h1v;rw [setRow_setRow, List.toList_toArray, hR] at h;exact h
 rw [← hcs0];have mixed : Tryz.prog.follows Departure.mixedOrders = true := kR;have hcp3 := fun ty dc sc => hcp1 ty (n - i) dc (n + 1 - i) sc (by simp only [Nat.min_def]; split <;> omega)
 have hcp4 := fun ty dc => hcp2 ty (n + 1 - i) dc oM
 clear hR hR1l hcp1 hcp2 hR1 hcl hcs0
 go_enter Tryz.func162, Tryz.ntmps162
 go_wp2_with (simp only [hov])
 go_region_law_o (refine step_copy_runI rfl _ _ 28 28 rfl _ _ (by simp [Act.eval, Act.put]) (by simp [Act.eval, Act.put]) (hcp3 _ _ _) ?_)
 go_wp2_with (at_builtin; refine wpList_copy_runI _ rfl _ _ 28 28 rfl _ _ rfl rfl (hcp4 _ _) ?_)
 go_ret
 exact ⟨rfl, by simp only [List.append_assoc]⟩
theorem heap_setRow {C C' : Array Value} {t : TypeId} (h : W.heap = w.heap.push (.cells C t)) : (W.setRow w.heap.size C').heap = w.heap.push (.cells C' t) := by
 have hm : ∀ (a : Array Go.Obj) (x : Go.Obj) (f : Go.Obj → Go.Obj), (a.push x).modify a.size f = a.push (f x) := by
  intro a x f;apply Array.ext
  ·simp
  ·intro i h1 h2;simp only [Array.getElem_modify, Array.getElem_push];by_cases h : a.size = i
   ·subst h;simp
   ·have hi : i < a.size := by simp at h1; omega
    simp [h, hi]
 unfold World.setRow;simp only [h];rw [hm]
theorem heap_at (h : W.heap = w.heap.push x) : W.heap[w.heap.size]? = some x := by rw [h]; simp
theorem heap_old (h : W.heap = w.heap.push x) {b : Nat} (hb : b < w.heap.size) : W.heap[b]? = w.heap[b]? := by
 rw [h, Array.getElem?_push, if_neg oM]
theorem cell_old (h : W.heap = w.heap.push x) {a : Addr} (hb : a.block < w.heap.size) : W.cell? a = w.cell? a := cell_of_heap (heap_old h hb)
abbrev zF : Value := .agg #[.string ⟨#[]⟩, .int .i64 0, .int .i64 0, .int .i64 0, .string ⟨#[]⟩, .slice none 0 0, .slice none 0 0]
theorem info77 : (Tryz.prog.info? 113).map (fun i => (i.zero, i.size, i.bytes)) = some (some zF, 7, 104) := kR
set_option maxHeartbeats 6400000 in
set_option maxRecDepth 1000000 in
theorem ins_grow (g n c i vb vo vc : Nat) (cur : Array Value) (t : TypeId) (ys : List Value) (w : World) (hi : i < n) (hnc : n ≤ c) (hroom : c < n + 1) (hbig : n ≤ 1000000000) (hg : w.heap[g]? = some (.cells cur t (0, 0))) (hcs : cur.size = c * 7) (hvw : vb < w.heap.size)
  (hyl : ys.length = 7) (hys : ∀ j v, ys[j]? = some v → w.cell? ⟨vb, vo + j, none⟩ = some v) (h1v : ∀ v ∈ ys, v.oneCell' = true) (h1c : ∀ j v, j < n * 7 → cur[j]? = some v → v.oneCell' = true) :
  Calls Tryz.prog 162 #[.slice (some ⟨g, 0, none⟩) n c, .int .i64 i, .slice (some ⟨vb, vo, none⟩) 1 vc] w fun e w' =>
   ∃ G FIN, e = .returned (.slice (some ⟨w.heap.size, 0, none⟩) (n + 1) G) ∧ n + 1 ≤ G ∧ w'.heap = w.heap.push (.cells (cur.toList.take (i * 7) ++ ys ++ ((cur.toList.drop (i * 7)).take ((n - i) * 7) ++ FIN)).toArray 113) ∧ FIN.length = (G - (n + 1)) * 7 ∧
    w'.os = w.os ∧ w'.tape = w.tape ∧ w'.output = w.output := by
 obtain ⟨i0, hi0, hz0, hzs, hzb⟩ := info_parts info77;have hz2 : ¬ ((i : Int) = (n : Int)) := oM;have hz3 : (c : Int) < (n : Int) + 1 := oM;have hsz : (Tryz.prog.info? 113).map (·.size) = some 7 := kR;have hbw : g < w.heap.size := by
  rcases Nat.lt_or_ge g w.heap.size with h' | h'
  ·exact h'
  ·simp [Array.getElem?_eq_none h'] at hg
 have hkk : (n : Int) + 1 - (i : Int) = ((n + 1 - i : Nat) : Int) := oM;have hik : i + (n + 1 - i) = n + 1 := oM;obtain ⟨hd, hhd⟩ : ∃ hd, hd = cur.toList.take (i * 7) := ⟨_, rfl⟩;have hhl : hd.length = i * 7 := by rw [hhd, List.length_take, Array.length_toList, hcs]; omega
 have hold : (Builtin.firstCells i0.size i (.slice (some ⟨g, 0, none⟩) i c)).run Tryz.prog w.drew = .ok hd.toArray w.drew := by
  rw [hzs];exact run_firstCells_some w.drew 7 i ⟨g, 0, none⟩ i c hd hhl (fun j v hj => by
   rw [Addr.add_lit];rw [hhd] at hj;have := take_get hj;exact add_drop (w := w.drew) (o := 0) (cs := []) hg (sX this))
 obtain ⟨G, hG⟩ : ∃ G, G = grownCap w (n + 1) c 113 := ⟨_, rfl⟩;have hrz : ∀ ty, (Builtin.append_ #[28, 3] ty #[.slice (some ⟨g, 0, none⟩) i c, .int .i64 ((n : Int) + 1 - (i : Int))]).run Tryz.prog w =
   .ok (.slice (some ⟨w.heap.size, 0, none⟩) (n + 1) G) (w.drew.alloc (.cells (hd.toArray ++ Builtin.zeroCells zF.cells (n + 1 - i) ++ Builtin.zeroCells zF.cells (G - (n + 1))) 113)) := fun ty => by
  have h := Lib.run_append_grow_zeros w 28 3 ty 113 i0 _ .i64 .i64 Tryz.underlying28 Tryz.underlying3 hi0 hz0 (some ⟨g, 0, none⟩) i c hd hold (n + 1 - i) oM oM oM oM (by rw [hzb]; omega) (by rw [hzb, hik]; exact growslice_fits hroom oM);rw [hik] at h;rw [hkk, hG];exact h
 have hGn : n + 1 ≤ G := by rw [hG]; exact grownCap_ge w _ _ _
 have hG63 : G ≤ 9223372036854775807 := by
  have := grownCap_le_maxLen w (n + 1) c 113 (by unfold maxLen; omega);rw [← hG] at this;unfold maxLen at this;omega
 obtain ⟨ROW, hROW⟩ : ∃ ROW : Array Value, ROW = hd.toArray ++ Builtin.zeroCells zF.cells (n + 1 - i) ++ Builtin.zeroCells zF.cells (G - (n + 1)) := ⟨_, rfl⟩;rw [← hROW] at hrz;have hRl : ROW.size = G * 7 := by
  have hz7 : zF.cells.size = 7 := rfl;rw [hROW];simp only [Array.size_append, List.size_toArray, size_zeroCells, hz7, hhl];omega
 obtain ⟨cs, hcs0⟩ : ∃ cs, cs = (cur.toList.drop (i * 7)).take ((n - i) * 7) := ⟨_, rfl⟩;have hcl : cs.length = (n - i) * 7 := by rw [hcs0, List.length_take, List.length_drop, Array.length_toList, hcs]; omega
 have hHD : ROW.toList.take (i * 7) = hd := by
  rw [hROW, Array.toList_append, Array.toList_append, List.append_assoc, List.toList_toArray, ← hhl, List.take_left]
 obtain ⟨R1, hR1⟩ : ∃ R1 : List Value, R1 = hd ++ ys ++ ROW.toList.drop (i * 7 + ys.length) := ⟨_, rfl⟩;have hR1l : R1.length = G * 7 := by
  rw [hR1];simp only [List.length_append, List.length_drop, Array.length_toList, hRl, hhl, hyl];omega
 obtain ⟨FIN, hFIN⟩ : ∃ FIN, FIN = R1.drop ((n + 1) * 7) := ⟨_, rfl⟩;have hFl : FIN.length = (G - (n + 1)) * 7 := by rw [hFIN, List.length_drop, hR1l]; omega
 have hR2 : R1.take ((i + 1) * 7) ++ cs ++ R1.drop ((i + 1) * 7 + cs.length) = hd ++ ys ++ (cs ++ FIN) := by
  have e1 : R1.take ((i + 1) * 7) = hd ++ ys := by
   have : (hd ++ ys).length = (i + 1) * 7 := by rw [List.length_append, hhl, hyl]; omega
   rw [hR1, ← this, List.take_left]
  rw [e1, List.append_assoc, hFIN, hcl];congr 3;omega
 have hcpA : ∀ (W : World), W.heap = w.heap.push (.cells ROW 113) → ∀ ty dc, (Builtin.copy_ #[28, 28] ty #[.slice (some ⟨w.heap.size, i * 7, none⟩) (n + 1 - i) dc, .slice (some ⟨vb, vo, none⟩) 1 vc]).run Tryz.prog W = .ok (goInt ((1 : Nat) : Int)) (W.setRow w.heap.size R1.toArray) := fun W hW ty dc => by
  have h := run_copy_rowK W 28 28 ty 113 w.heap.size (i * 7) (n + 1 - i) dc ⟨vb, vo, none⟩ 1 vc 1 7 ROW 113 ys Tryz.underlying28 hsz (heap_at hW) (by simp only [Nat.min_def]; split <;> omega) oM
   (fun j v hj => by rw [Addr.add_lit, cell_old hW hvw]; exact hys j v hj) (by rw [hyl, hRl]; omega) h1v
  rw [hHD, ← hR1] at h;exact h
 have hcpB : ∀ (W : World), W.heap = w.heap.push (.cells R1.toArray 113) → ∀ ty dc sc, (Builtin.copy_ #[28, 28] ty #[.slice (some ⟨w.heap.size, (i + 1) * 7, none⟩) (n - i) dc, .slice (some ⟨g, i * 7, none⟩) (n - i) sc]).run Tryz.prog W = .ok (goInt ((n - i : Nat) : Int)) (W.setRow w.heap.size (hd ++ ys ++ (cs ++ FIN)).toArray) := fun W hW ty dc sc => by
  have h := run_copy_rowK W 28 28 ty 113 w.heap.size ((i + 1) * 7) (n - i) dc ⟨g, i * 7, none⟩ (n - i) sc (n - i) 7 R1.toArray 113 cs Tryz.underlying28 hsz (heap_at hW) (by simp only [Nat.min_def]; split <;> omega) hcl
   (fun j v hj => by
    rw [Addr.add_lit, cell_old hW hbw];rw [hcs0] at hj;exact add_drop (cs := []) hg (take_get hj)) (by simp only [List.size_toArray, hR1l, hcl]; omega)
   (fun v hv => by
    obtain ⟨j, hj⟩ := mem_get hv;have hjl := (List.getElem?_eq_some_iff.1 hj).1;rw [hcs0] at hj;have h2 := take_get hj;rw [List.getElem?_drop] at h2;exact h1c (i * 7 + j) v (by rw [hcl] at hjl; omega) (sX h2))
  rw [List.toList_toArray, hR2] at h;exact h
 have hw1 : IntKind.i64.wrap ((i : Int) + 1) = (i : Int) + 1 := by rw [IntKind.wrap_i64]; omega
 have hw2 : IntKind.i64.wrap ((n : Int) + 1) = (n : Int) + 1 := by rw [IntKind.wrap_i64]; omega
 have hb1 : (0 : Int) ≤ (i : Int) + 1 := oM;have hin : i ≤ n := oM;have htn : ((i : Int) + 1).toNat = i + 1 := oM;have hb3 : (i : Int) ≤ (n : Int) := oM;have hGi : ¬ (G = i) := oM;have hGim : ¬ (G = i + 1) := oM;have hci : ¬ (c = i) := oM;rw [← hcs0, ← hhd];have mixed : Tryz.prog.follows Departure.mixedOrders = true := kR;have hN0 : (w.alloc (.cells ROW 113)).drew.heap = w.heap.push (.cells ROW 113) := rfl;have hN1 : ((w.alloc (.cells ROW 113)).drew.setRow w.heap.size R1.toArray).drew.heap = w.heap.push (.cells R1.toArray 113) := heap_setRow hN0;have hN2 : ∀ C' : Array Value, (((w.alloc (.cells ROW 113)).drew.setRow w.heap.size R1.toArray).drew.setRow w.heap.size C').heap = w.heap.push (.cells C' 113) := fun C' => heap_setRow hN1
 generalize hFN : hd ++ ys ++ (cs ++ FIN) = FN at hcpB;clear hkk hik hold hROW hG hRl hR1 hR1l hFIN hR2 hHD hhd hcs0 hhl hcl h1c hys
 go_enter Tryz.func162, Tryz.ntmps162
 go_wp2_with (first
  | (at_builtin; refine Lib.wpList_append_run _ rfl _ _ _ _ rfl _ _ rfl rfl _ _ (hrz _) ?_)
  | (at_builtin; refine wpList_copy_runI _ rfl _ _ 28 28 rfl _ _ rfl rfl (hcpA _ hN0 _ _) ?_))
 go_region_law_o (refine step_copy_runI rfl _ _ 28 28 rfl _ _ (by simp [Act.eval, Act.put]) (by simp [Act.eval, Act.put]) (hcpB _ hN1 _ _ _) ?_)
 go_wp2
 go_ret
 refine ⟨G, FIN, rfl, hGn, ?_, hFl, rfl, rfl, rfl⟩;rw [hFN];exact hN2 _
end Go.Proofs
namespace Av
open Go Go.RowKit
variable [Glb] [Rls]
theorem CallOK.of_callsN {P : Program} {f : Nat} {ds : List Dat} {x : Dat} (hh : Has P f)
  (h : ∀ (A : Nat → Prop) (w : World) (vs : Array Value), ds.length = vs.size → (∀ (i : Nat) d u, ds[i]? = some d → vs[i]? = some u → Rep A w d u) →
   Calls P f vs w fun e w' => ∃ u, e = .returned u ∧ Below w.heap.size w w' ∧ Rep (fun b => A b ∨ (w.heap.size ≤ b ∧ b < w'.heap.size)) w' x u) : CallOK P f (ds.map .d) [] (.d x) [] := by
 intro β A w H vs _ hc hvs;have hl : ds.length = vs.size := sX hvs.1;refine .inl ⟨hh, (h A w vs hl ?_).mono ?_⟩
 ·intro i d u hd hu;have := hvs.2 i (.d d) u (by rw [List.getElem?_map, hd]; rfl) hu;exact this.of_d
 ·rintro e w' ⟨u, rfl, hb, hr⟩;refine ⟨u, rfl, β, fun b => A b ∨ (w.heap.size ≤ b ∧ b < w'.heap.size), ?_, .d _ _ hr⟩;refine Stp.new hc hb.os hb.tape hb.output hb.size hb.block (fun _ h => .inl h) ?_ ?_
  ·rintro b (h | h)
   ·exact .inl h
   ·exact .inr h.1
  ·rintro b (h | h)
   ·exact Nat.lt_of_lt_of_le (hc.old b h) hb.size
   ·exact h.2
theorem rep_owns {A : Nat → Prop} {w w' : World} {e : TypeId} {v : Value} {n : Nat} {ss : List (List UInt8)} (hn : n = ss.length) (hs : ∀ s ∈ ss, s.length ≤ 68719476736) (hl : ss.length ≤ 68719476736)
  (h : w'.ownsRow w.heap.size e 1 v n (ss.map fun s => Value.string ⟨s.toArray⟩)) : Rep (fun b => A b ∨ (w.heap.size ≤ b ∧ b < w'.heap.size)) w' (.list 1 (ss.map .str)) v := by
 obtain ⟨h1, ⟨rfl, h0⟩ | ⟨g, cap, cur, rfl, hg, hh, hcap, _, hcur, htake⟩⟩ := h
 ·have : ss = [] := by cases ss with
   | nil => rfl
   | cons a r => simp at hn; omega
  subst this;exact .emp 1 none 0
 ·have hlt : g < w'.heap.size := (Array.getElem?_eq_some_iff.1 hh).1;refine .list 1 _ g 0 n cap (ss.map fun s => Value.string ⟨s.toArray⟩) (sX hn) (.inr ⟨hg, hlt⟩) sO (sX hl) ?_ ?_ ?_ ?_ ?_
  ·intro u hu; obtain ⟨s, _, rfl⟩ := List.mem_map.1 hu; rfl
  ·intro x hx; obtain ⟨s, _, rfl⟩ := List.mem_map.1 hx; rfl
  ·intro i u hu;have : (cur.toList.take (n * 1))[i]? = some u := by rw [htake]; exact hu
   rw [List.getElem?_take] at this;split at this
   ·simp only [World.cell?, hh, Nat.zero_add];simpa using this
   ·cases this
  ·rw [flat_str]; simp
  ·intro i c u hc hu;rw [flat_str, List.getElem?_map] at hc;rw [List.getElem?_map] at hu;cases q : ss[i]? with
   | none => rw [q] at hc; cases hc
   | some s =>
    rw [q] at hc hu;cases hc;cases hu;exact .str s (hs s (List.mem_of_getElem? q))
end Av
namespace Go.Proofs
open Go Av Go.RowKit Go.Shelf Go.Lib
set_option maxHeartbeats 2000000 in
set_option maxRecDepth 1000000 in
theorem clf_calls (a : Addr) (n c : Nat) (vs : List Value) (w : World) (hl : vs.length = n * 7) (hbig : n ≤ 68719476736) (hc : ∀ j u, vs[j]? = some u → w.cell? (a.add j) = some u) (h1 : ∀ u ∈ vs, u.oneCell' = true) :
  Calls Tryz.prog 163 #[.slice (some a) n c] w fun e w' => ∃ v', e = .returned v' ∧ w'.ownsRow w.heap.size 113 7 v' n vs ∧ Below w.heap.size w w' := by
 obtain ⟨i0, hi, hz0, hz1, hz2⟩ : ∃ i0, Tryz.prog.info? 113 = some i0 ∧ i0.zero = some zF ∧ i0.size = 7 ∧ i0.bytes = 104 := by
  have := info77;cases e : Tryz.prog.info? 113 with
  | none => rw [e] at this; cases this
  | some i0 => rw [e] at this; simp at this; exact ⟨i0, rfl, this.1, this.2.1, this.2.2⟩
 have q : ∀ (w : World) (a : Option Addr) (n c n' c' : Nat), (binOp .eql 28 (.slice a n c) (.slice none n' c')).run Tryz.prog w = .ok (.bool a.isNone) w := fun w a n c n' c' => Lib.run_eql_slice_nil w _ _ a n c n' c' Tryz.underlying28
 have mixed : Tryz.prog.follows Departure.mixedOrders = true := kR;have A : Aside (∀ j u, vs[j]? = some u → w.cell? (a.add j) = some u) := hc;clear hc
 go_enter Tryz.func163, Tryz.ntmps163
 go_wp2_with (first | (simp only [q]; done) | (at_builtin; refine wpList_append_own _ rfl _ _ 28 rfl w.heap.size 113 i0 zF 7 104 Tryz.underlying28 hi hz0 hz1 hz2 rfl dC _ _ _ rfl (World.ownsRow_made w #[] 0 (Nat.le_refl _) (Nat.zero_le _) rfl) a n c vs rfl ?qc1 ?qc2 ?qc3 ?qc4 ?qc5 ?qc6 ?_))
 case qc1 => exact hl
 case qc2 => intro j u hj; exact Lib.cell?_alloc_some _ (A.out j u hj)
 case qc3 => exact h1
 case qc4 => unfold maxLen; omega
 case qc5 => omega
 case qc6 => simp
 intro v' w1 hown hgrow hnil
 go_wp2
 go_ret
 refine ⟨v', rfl, by simpa using hown, ?_⟩;exact ((Below.refl _ w).alloc (Nat.le_refl _) _).grown hgrow sP (by intro k hk; simp [Value.ownBlock] at hk; omega)
abbrev zV : Value := .agg #[.int .i64 0, .int .i64 0, .int .i64 0, .string ⟨#[]⟩, .slice none 0 0, .slice none 0 0]
theorem info30 : (Tryz.prog.info? 30).map (fun i => (i.zero, i.size, i.bytes)) = some (some zV, 6, 88) := kR
set_option maxHeartbeats 2000000 in
set_option maxRecDepth 1000000 in
theorem clv_calls (a : Addr) (n c : Nat) (vs : List Value) (w : World) (hl : vs.length = n * 6) (hbig : n ≤ 68719476736) (hc : ∀ j u, vs[j]? = some u → w.cell? (a.add j) = some u) (h1 : ∀ u ∈ vs, u.oneCell' = true) :
  Calls Tryz.prog 165 #[.slice (some a) n c] w fun e w' => ∃ v', e = .returned v' ∧ w'.ownsRow w.heap.size 30 6 v' n vs ∧ Below w.heap.size w w' := by
 obtain ⟨i0, hi, hz0, hz1, hz2⟩ : ∃ i0, Tryz.prog.info? 30 = some i0 ∧ i0.zero = some zV ∧ i0.size = 6 ∧ i0.bytes = 88 := by
  have := info30;cases e : Tryz.prog.info? 30 with
  | none => rw [e] at this; cases this
  | some i0 => rw [e] at this; simp at this; exact ⟨i0, rfl, this.1, this.2.1, this.2.2⟩
 have q : ∀ (w : World) (a : Option Addr) (n c n' c' : Nat), (binOp .eql 27 (.slice a n c) (.slice none n' c')).run Tryz.prog w = .ok (.bool a.isNone) w := fun w a n c n' c' => Lib.run_eql_slice_nil w _ _ a n c n' c' Tryz.underlying27
 have mixed : Tryz.prog.follows Departure.mixedOrders = true := kR;have A : Aside (∀ j u, vs[j]? = some u → w.cell? (a.add j) = some u) := hc;clear hc
 go_enter Tryz.func165, Tryz.ntmps165
 go_wp2_with (first | (simp only [q]; done) | (at_builtin; refine wpList_append_own _ rfl _ _ 27 rfl w.heap.size 30 i0 zV 6 88 Tryz.underlying27 hi hz0 hz1 hz2 rfl dC _ _ _ rfl (World.ownsRow_made w #[] 0 (Nat.le_refl _) (Nat.zero_le _) rfl) a n c vs rfl ?qc1 ?qc2 ?qc3 ?qc4 ?qc5 ?qc6 ?_))
 case qc1 => exact hl
 case qc2 => intro j u hj; exact Lib.cell?_alloc_some _ (A.out j u hj)
 case qc3 => exact h1
 case qc4 => unfold maxLen; omega
 case qc5 => omega
 case qc6 => simp
 intro v' w1 hown hgrow hnil
 go_wp2
 go_ret
 refine ⟨v', rfl, by simpa using hown, ?_⟩;exact ((Below.refl _ w).alloc (Nat.le_refl _) _).grown hgrow sP (by intro k hk; simp [Value.ownBlock] at hk; omega)
set_option maxHeartbeats 1000000 in
theorem clf_nil (n c : Nat) (w : World) : Calls Tryz.prog 163 #[.slice none n c] w fun e w' => e = .returned (.slice none 0 0) ∧ w' = w := by
 have q : ∀ (w : World) (a : Option Addr) (n c n' c' : Nat), (binOp .eql 28 (.slice a n c) (.slice none n' c')).run Tryz.prog w = .ok (.bool a.isNone) w := fun w a n c n' c' => Lib.run_eql_slice_nil w _ _ a n c n' c' Tryz.underlying28
 have mixed : Tryz.prog.follows Departure.mixedOrders = true := kR
 go_enter Tryz.func163, Tryz.ntmps163
 go_wp2
 go_ret
 exact ⟨rfl, rfl⟩
set_option maxHeartbeats 1000000 in
theorem clv_nil (n c : Nat) (w : World) : Calls Tryz.prog 165 #[.slice none n c] w fun e w' => e = .returned (.slice none 0 0) ∧ w' = w := by
 have q : ∀ (w : World) (a : Option Addr) (n c n' c' : Nat), (binOp .eql 27 (.slice a n c) (.slice none n' c')).run Tryz.prog w = .ok (.bool a.isNone) w := fun w a n c n' c' => Lib.run_eql_slice_nil w _ _ a n c n' c' Tryz.underlying27
 have mixed : Tryz.prog.follows Departure.mixedOrders = true := kR
 go_enter Tryz.func165, Tryz.ntmps165
 go_wp2
 go_ret
 exact ⟨rfl, rfl⟩
theorem CallOK.rowN {P : Program} {f : Nat} {e : TypeId} {sz : Nat} {xs : List Dat} (hh : Has P f) (hs0 : 0 < sz) (hs : ∀ x ∈ xs, x.cells.length = sz)
  (hN : ∀ (n c : Nat) (w : World), Calls P f #[.slice none n c] w fun e w' => e = .returned (.slice none 0 0) ∧ w' = w)
  (hS : ∀ (a : Addr) (n c : Nat) (vs : List Value) (w : World), vs.length = n * sz → n ≤ 68719476736 → (∀ j u, vs[j]? = some u → w.cell? (a.add j) = some u) → (∀ u ∈ vs, u.oneCell' = true) →
   Calls P f #[.slice (some a) n c] w fun q w' => ∃ v', q = .returned v' ∧ w'.ownsRow w.heap.size e sz v' n vs ∧ Below w.heap.size w w') (i : Nat) :
  CallOK P f [.d (.list sz xs)] [(i, none)] (.ms i 0) [(i, .row 0 sz xs)] := by
 intro β A w H vs hT hc hvs;obtain ⟨hvl, hvs⟩ := hvs;obtain ⟨x, rfl⟩ : ∃ x, vs = #[x] := by
  refine ⟨vs[0]'(by simp at hvl; omega), ?_⟩;apply Array.ext
  ·simp at hvl ⊢; omega
  ·intro j h1 h2; simp at h2; subst h2; rfl
 have hi : H i = none := hT (i, none) List.mem_cons_self;have hx := (hvs 0 _ x rfl rfl).of_d;have main : ∀ (n : Nat) (vs : List Value), n = xs.length → xs.length ≤ 68719476736 → vs.length = n * sz → (∀ (j : Nat) c v, (flat xs)[j]? = some c → vs[j]? = some v → Rep A w c v ∧ v.oneCell' = true) → ∀ (u : Value) (w' : World), w'.ownsRow w.heap.size e sz u n vs → Below w.heap.size w w' →
   ∃ β' A', Stp β A w H β' A' w' (hputs H [(i, .row 0 sz xs)]) ∧ VRep β' A' w' (hputs H [(i, .row 0 sz xs)]) (.ms i 0) u := by
  intro n vs hn hl hvl hv u w' ho hb;obtain ⟨o1, ⟨rfl, h0⟩ | ⟨g, cap, cur, rfl, hg, hgh, hcap, _, hcs, htk⟩⟩ := ho
  ·have hxs : xs = [] := List.eq_nil_of_length_eq_zero oM;subst hxs;refine ⟨upd β i none, A, Stp.one hc i (.row 0 sz []) none hb.os hb.tape hb.output hb.size (fun b hb' _ => hb.block b hb') (fun _ h => h) (fun _ h => .inl h) (fun b h => Nat.lt_of_lt_of_le (hc.old b h) hb.size) sP (fun c u hcase hvr => old_vals (.inl hi) c u hcase hvr)
    (fun _ => ⟨hs0, sP, sP, .inl ⟨upd_same _ _ _, rfl⟩⟩), ?_⟩
   refine .ms _ _ _ rfl (by simp [hputs, upd]) ?_ (by simp [hputs, upd]);intro v' sz' xs' hr;simp only [hputs, upd_same] at hr;cases hr;exact ⟨Nat.le_refl _, fun _ => .inl ⟨upd_same _ _ _, rfl, none, rfl⟩⟩
  ·have hfl := flat_length hs;have hcell : ∀ (j : Nat) v, j < (flat xs).length → cur[j]? = some v → vs[j]? = some v := by
    intro j v hj hv';rw [← htk, List.getElem?_take, if_pos (by rw [hn, ← hfl]; exact hj), Array.getElem?_toList];exact hv'
   have hgl : g < w'.heap.size := (Array.getElem?_eq_some_iff.1 hgh).1;have hfi : ∀ (j : Nat), j < (flat xs).length → ∃ c, (flat xs)[j]? = some c := fun j hj => ⟨_, List.getElem?_eq_getElem hj⟩
   have hsA : SameOn A w w' := fun b hb' => hb.block b (hc.old b hb')
   refine ⟨upd β i (some g), A, Stp.one hc i (.row 0 sz xs) (some g) hb.os hb.tape hb.output hb.size (fun b hb' _ => hb.block b hb') (fun _ h => h) (fun _ h => .inl h) (fun b h => Nat.lt_of_lt_of_le (hc.old b h) hb.size)
    (fun b h _ => by cases h; exact ⟨.inl hg, fun hA => by have := hc.old _ hA; omega⟩) (fun c u hcase hvr => old_vals (.inl hi) c u hcase hvr)
    (fun _ => ⟨hs0, hs, hl, .inr ⟨g, cur, e, cap, upd_same _ _ _, hgh, hcs, oM, fun j v hj hv' => ?_, fun j c v hc' hv' => ?_⟩⟩), ?_⟩
   ·obtain ⟨c, hc'⟩ := hfi j hj;exact (hv j c v hc' (hcell j v hj hv')).2
   ·exact ((hv j c v hc' (hcell j v (List.getElem?_eq_some_iff.1 hc').1 hv')).1).mono hsA fun _ h => h
   ·refine .ms _ _ _ rfl (by simp [hputs, upd]) ?_ (by simp [hputs, upd]);intro v' sz' xs' hr;simp only [hputs, upd_same] at hr;cases hr;exact ⟨Nat.le_refl _, fun _ => .inr ⟨g, cur, e, (0, 0), cap, upd_same _ _ _, hgh, hcs, oM, by rw [hn]⟩⟩
 cases hx with
 | emp sz a cap =>
  cases a with
  | none =>
   refine .inl ⟨hh, (hN 0 cap w).mono ?_⟩;rintro q w' ⟨rfl, rfl⟩;exact ⟨_, rfl, main 0 [] rfl sP sP (by simp [flat]) _ _ ⟨sP, .inl ⟨rfl, rfl⟩⟩ (Below.refl _ _)⟩
  | some a =>
   refine .inl ⟨hh, (hS a 0 cap [] w sP oM sP sP).mono ?_⟩;rintro q w' ⟨v', rfl, ho, hb⟩;exact ⟨_, rfl, main 0 [] rfl sP sP (by simp [flat]) _ _ ho hb⟩
 | list _ _ b o n cap ws hn hA hl hlen h1 hsz hhold hvlen hv =>
  have hwl : ws.length = n * sz := by rw [← hvlen, flat_length hs, hn]
  refine .inl ⟨hh, (hS ⟨b, o, none⟩ n cap ws w hwl oM (fun j u hj => by rw [Addr.add_lit]; exact hhold j u hj) h1).mono ?_⟩;rintro q w' ⟨v', rfl, ho, hb⟩;exact ⟨_, rfl, main n ws hn hlen hwl (fun j c v hc' hv' => ⟨hv j c v hc' hv', h1 v (List.mem_of_getElem? hv')⟩) _ _ ho hb⟩
theorem call163 (l : List Fld) (i : Nat) : CT 163 [.d (.list 7 (l.map encF))] [(i, none)] (.ms i 0) [(i, .row 0 7 (l.map encF))] :=
 CallOK.rowN (e := 113) (hasT Tryz.func163 kR kR) dC (fun x hx => by obtain ⟨f, _, rfl⟩ := List.mem_map.1 hx; rw [encF_eq]; rfl) clf_nil clf_calls i
theorem call165 (l : List Val) (i : Nat) : CT 165 [.d (.list 6 (l.map encV))] [(i, none)] (.ms i 0) [(i, .row 0 6 (l.map encV))] :=
 CallOK.rowN (e := 30) (hasT Tryz.func165 kR kR) dC (fun x hx => by obtain ⟨f, _, rfl⟩ := List.mem_map.1 hx; rw [encV_eq]; rfl) clv_nil clv_calls i
end Go.Proofs
namespace Go.Proofs
open Go Av Go.RowKit Go.Shelf
variable {A : Nat → Prop} {w : World} {F : List Dat} {V : List Value}
def Pt (A : Nat → Prop) (w : World) (F : List Dat) (V : List Value) : Prop := F.length = V.length ∧ ∀ (j : Nat) c v, F[j]? = some c → V[j]? = some v → Rep A w c v ∧ v.oneCell' = true
theorem Pt.app {F' : List Dat} {V' : List Value} (h : Pt A w F V) (h' : Pt A w F' V') : Pt A w (F ++ F') (V ++ V') := by
 refine ⟨by rw [List.length_append, List.length_append, h.1, h'.1], fun j c v hc hv => ?_⟩;by_cases hj : j < F.length
 ·rw [List.getElem?_append_left hj] at hc;rw [List.getElem?_append_left (by rw [← h.1]; exact hj)] at hv;exact h.2 j c v hc hv
 ·rw [List.getElem?_append_right oM] at hc;rw [List.getElem?_append_right (by rw [← h.1]; omega), ← h.1] at hv;exact h'.2 _ c v hc hv
theorem Pt.take (h : Pt A w F V) (k : Nat) : Pt A w (F.take k) (V.take k) :=
 ⟨by simp [h.1], fun j c v hc hv => h.2 j c v (take_get hc) (take_get hv)⟩
theorem Pt.drop (h : Pt A w F V) (k : Nat) : Pt A w (F.drop k) (V.drop k) :=
 ⟨by simp [h.1], fun j c v hc hv => by
  rw [List.getElem?_drop] at hc hv;exact h.2 _ c v hc hv⟩
theorem Pt.one {R : List Value} (h : Pt A w F V) (j : Nat) (v : Value) (hj : j < F.length) (hv : ((V ++ R).toArray)[j]? = some v) : v.oneCell' = true := by
 rw [List.getElem?_toArray, List.getElem?_append_left (by rw [← h.1]; exact hj)] at hv;exact (h.2 j _ v (List.getElem?_eq_getElem hj) hv).2
theorem Pt.rep {R : List Value} (h : Pt A w F V) (j : Nat) (c : Dat) (v : Value) (hc : F[j]? = some c) (hv : ((V ++ R).toArray)[j]? = some v) : Rep A w c v := by
 have hj : j < F.length := (List.getElem?_eq_some_iff.1 hc).1;rw [List.getElem?_toArray, List.getElem?_append_left (by rw [← h.1]; exact hj)] at hv;exact (h.2 j c v hc hv).1
theorem mem_insD {xs : List Dat} {y : Dat} {k : Nat} (hs : ∀ x ∈ xs, x.cells.length = 7) (hy : y.cells.length = 7) : ∀ x ∈ xs.take k ++ y :: xs.drop k, x.cells.length = 7 := by
 intro x hx;rcases List.mem_append.1 hx with h | h
 ·exact hs x (List.mem_of_mem_take h)
 ·rcases List.mem_cons.1 h with rfl | h
  ·exact hy
  ·exact hs x (List.mem_of_mem_drop h)
theorem shape_of {b o : Nat} {v : Value} (h : w.cell? ⟨b, o, none⟩ = some v) : ∃ t k, w.shape? b = some (t, k) ∧ k ≠ 0 ∧ b < w.heap.size := by
 have hb : b < w.heap.size := holds_lt (o := o) (k := 0) h;unfold World.cell? at h;unfold World.shape?;cases e : w.heap[b]? with
 | none => simp [e] at h
 | some x =>
  cases x with
  | cells c t f =>
   simp only [e] at h;refine ⟨t, c.size, rfl, ?_, hb⟩;have h' : c[o]? = some v := sX h;have := (Array.getElem?_eq_some_iff.1 h').1;omega
  | _ => simp [e] at h
theorem ins_ok (i v k : Nat) (xs : List Dat) (y : Dat) (hk : k < xs.length) (hx : xs.length ≤ 1000000000) (hy : y.cells.length = 7) :
  CT (.fn 162) [.ms i v, .d (.int .i64 k), .d (.list 7 [y])] [(i, some (.row v 7 xs))] (.ms i (v + 1)) [(i, .row (v + 1) 7 (xs.take k ++ y :: xs.drop k))] := by
 intro β A w H vs hT hc hvs;have hi : H i = some (.row v 7 xs) := hT _ (List.mem_cons_self);obtain ⟨x1, x2, x3, rfl⟩ : ∃ x y z, vs = #[x, y, z] := by
  have h3 : 3 = vs.size := sX hvs.1;refine ⟨vs[0], vs[1], vs[2], ?_⟩;apply Array.ext
  ·simp [← h3]
  ·intro i h1 h2;have : i = 0 ∨ i = 1 ∨ i = 2 := oM;rcases this with rfl | rfl | rfl <;> rfl
 have h1 := hvs.2 0 _ x1 rfl rfl;have h2 := (hvs.2 1 _ x2 rfl rfl).of_d;have h3 := (hvs.2 2 _ x3 rfl rfl).of_d;cases h2;have hls : (xs.take k ++ y :: xs.drop k).length = xs.length + 1 := sO;obtain ⟨_, hs, hbnd, hob⟩ := hc.objs i _ hi;have hsm := mem_insD (k := k) hs hy;rcases hob with ⟨_, rfl⟩ | ⟨b, C, T, cap, hb, hh, hC, hle, hone, hrep⟩
 ·simp at hk
 have hfl : (flat xs).length = xs.length * 7 := flat_length hs;have hP : Pt A w (flat xs) (C.toList.take (xs.length * 7)) := by
  have hCl : C.toList.length = cap * 7 := sX hC;refine ⟨by rw [hfl, List.length_take, hCl]; omega, fun j c u hcj huj => ?_⟩;have hj : j < (flat xs).length := (List.getElem?_eq_some_iff.1 hcj).1;have hu := take_get huj;rw [Array.getElem?_toList] at hu;exact ⟨hrep j c u hcj hu, hone j u hj hu⟩
 have hP1 := hP.take (k * 7);have hP3 := hP.drop (k * 7);rw [List.take_take, show min (k * 7) (xs.length * 7) = k * 7 by omega] at hP1;rw [List.drop_take, ← Nat.sub_mul] at hP3;have hu1 : x1 = .slice (some ⟨b, 0, none⟩) xs.length cap := by
  cases h1 with
  | ms _ _ _ hu h0 g1 g2 =>
   rcases (g1 v 7 xs hi).2 rfl with ⟨hn, _⟩ | ⟨b', C', T', fz, cap', hb', hh', hC', hn', rfl⟩
   ·rw [hb] at hn; cases hn
   ·rw [hb] at hb';cases hb';rw [hh] at hh';cases hh';have : cap' = cap := oM;rw [this]
 subst hu1;cases h3 with
 | list _ _ vb vo n cap0 vs hn hA hlc hcc hv1 hs1 hhv hvl hvv =>
  have hn1 : n = 1 := hn;subst hn1;have hfy : flat [y] = y.cells := by simp [flat]
  rw [hfy] at hvl hvv;have hyl : vs.length = 7 := oM;have hP2 : Pt A w y.cells vs := ⟨oM, fun j c u hcj huj => ⟨hvv j c u hcj huj, hv1 u (List.mem_of_getElem? huj)⟩⟩;have hPA := (hP1.app hP2).app hP3;have hfe : flat (xs.take k ++ y :: xs.drop k) = (flat xs).take (k * 7) ++ y.cells ++ (flat xs).drop (k * 7) := by
   rw [flat_append, flat_cons, flat_take k hs, flat_drop k hs, List.append_assoc]
  rw [← hfe] at hPA;obtain ⟨u0, hu0⟩ : ∃ u, vs[0]? = some u := ⟨vs[0], List.getElem?_eq_getElem oM⟩;obtain ⟨tA, kA, hsa, hkA, hvb⟩ := shape_of (hhv 0 u0 hu0);have hne : vb ≠ b := fun e => hc.sep i _ b hi rfl hb (e ▸ hA)
  have hone' : ∀ j u, j < xs.length * 7 → C[j]? = some u → u.oneCell' = true := fun j u hj hu => hone j u oM hu
  have hhas := hasT (f := 162) Tryz.func162 kR kR;by_cases hroom : xs.length + 1 ≤ cap
  ·refine .inl ⟨hhas, (ins_room b xs.length cap k vb vo cap0 C T vs w hk hroom hx hh hC hne hyl hhv hv1 hone' tA kA hsa hkA).mono ?_⟩;rintro e w' ⟨rfl, rfl⟩;have hw1 := Stp.draw hc (w₁ := w.drew) rfl rfl rfl rfl;have hP' : Pt A w.drew (flat (xs.take k ++ y :: xs.drop k)) (C.toList.take (k * 7) ++ vs ++ (C.toList.drop (k * 7)).take ((xs.length - k) * 7)) :=
    ⟨hPA.1, fun j c u h1 h2 => ⟨(hPA.2 j c u h1 h2).1.mono (fun _ _ => rfl) (fun _ h => h), (hPA.2 j c u h1 h2).2⟩⟩
   rw [← List.append_assoc];have hsz : ((C.toList.take (k * 7) ++ vs ++ (C.toList.drop (k * 7)).take ((xs.length - k) * 7)) ++ C.toList.drop ((xs.length + 1) * 7)).toArray.size = C.size := by
    have hCl : C.toList.length = C.size := sP;rw [List.size_toArray, List.length_append, ← hP'.1, flat_length hsm, hls, List.length_drop, hCl, hC];omega
   have hst := Stp.rowSet hw1.core hi hb (by exact hh) hC hsz (Nat.le_succ v) (fun h => by omega) hsm oM oM (fun j u hj hu => hP'.one j u hj hu) (fun j c u h1 h2 => hP'.rep j c u h1 h2);refine ⟨_, rfl, β, A, hw1.trans hst, ?_⟩;refine .ms _ _ _ rfl (by simp [hputs, upd]) ?_ (by simp [hputs, upd]);intro v3 sz3 xs3 h3;simp only [hputs, upd, if_true, Option.some.injEq, Obj.row.injEq] at h3;obtain ⟨rfl, rfl, rfl⟩ := h3;exact ⟨Nat.le_refl _, fun _ => .inr ⟨b, _, T, (0, 0), cap, hb, setRow_heap w.drew b C _ T (0, 0) hh, by rw [hsz, hC], oM, by rw [hls]⟩⟩
  ·refine .inl ⟨hhas, (ins_grow b xs.length cap k vb vo cap0 C T vs w hk hle oM hx hh hC hvb hyl hhv hv1 hone').mono ?_⟩;rintro e w' ⟨G, FIN, rfl, hG, hheap, hFl, hos, htp, hout⟩;rw [← List.append_assoc] at hheap;have hsz : ((C.toList.take (k * 7) ++ vs ++ (C.toList.drop (k * 7)).take ((xs.length - k) * 7)) ++ FIN).toArray.size = G * 7 := by
    rw [List.size_toArray, List.length_append, ← hPA.1, flat_length hsm, hls, hFl];omega
   have hst := Stp.rowNew hc (j := i) (ver' := v + 1) (.inr ⟨v, 7, xs, hi, Nat.lt_succ_self v⟩) (w1 := w) rfl rfl rfl rfl oM hsm oM oM hsz (fun j u hj hu => hPA.one j u hj hu) (fun j c u h1 h2 => hPA.rep j c u h1 h2) (e := 113);have hst2 := hst.trans (Stp.draw hst.core (w₁ := w') (by rw [hheap]; rfl) hos htp hout);refine ⟨_, rfl, _, A, hst2, ?_⟩;refine .ms _ _ _ rfl (by simp [hputs, upd]) ?_ (by simp [hputs, upd]);intro v3 sz3 xs3 h3;simp only [hputs, upd, if_true, Option.some.injEq, Obj.row.injEq] at h3;obtain ⟨rfl, rfl, rfl⟩ := h3;exact ⟨Nat.le_refl _, fun _ => .inr ⟨w.heap.size, _, 113, (0, 0), G, upd_same _ _ _, heap_at hheap, hsz, oM, by rw [hls]⟩⟩
end Go.Proofs
namespace Go.Proofs
open Go Av
open Av.Y
end Go.Proofs
namespace Go.Proofs
open Go Av
mutual
theorem okV_fits : ∀ v : Val, fits (encV v) → okV v
 | .mk k i s t l f, h => by
  have h' : l.length ≤ 68719476736 ∧ f.length ≤ 68719476736 := (fits_V3 h).2;rw [encV_eq] at h;simp only [fits, fitsL, and_true, Val.list, Val.fields] at h;simp only [okV];exact ⟨h'.1, h'.2, okVs_fits l fun x hx => fitsL_iff.1 h.2.2.2.2.1.2 _ (List.mem_map.2 ⟨x, hx, rfl⟩), okFs_fits f fun x hx => fitsL_iff.1 h.2.2.2.2.2.2 _ (List.mem_map.2 ⟨x, hx, rfl⟩)⟩
theorem okVs_fits : ∀ l : List Val, (∀ x ∈ l, fits (encV x)) → okVs l
 | [], _ => by simp [okVs]
 | v :: r, h => by
  simp only [okVs];exact ⟨okV_fits v (h v (List.mem_cons_self)), okVs_fits r fun x hx => h x (List.mem_cons_of_mem _ hx)⟩
theorem okFs_fits : ∀ l : List Fld, (∀ x ∈ l, fits (encF x)) → okFs l
 | [], _ => by simp [okFs]
 | .mk n v :: r, h => by
  have h1 := h (.mk n v) (List.mem_cons_self);rw [encF_eq] at h1;have h2 : fits (encV v) := by
   rw [encV_eq];simp only [fits, fitsL, and_true, Fld.value] at h1 ⊢;exact h1.2
  simp only [okFs];exact ⟨okV_fits v h2, okFs_fits r fun x hx => h x (List.mem_cons_of_mem _ hx)⟩
end
theorem p54 (a : Val) : PT 54 [encV a] (.d (encV a)) := PCon.of_fits ok54.has fun h => walk54 a (okV_fits a (h _ (List.mem_cons_self)))
theorem p17 (a b : Val) : PT 17 [encV a, encV b] (.d (.bool (cmpV a b == 0))) := PCon.of_fits ok17.has fun h => walk17 a b (okV_fits a (h _ (List.mem_cons_self))) (okV_fits b (h _ (List.mem_cons_of_mem _ (List.mem_cons_self))))
theorem con162 (v : Nat) (xs : List Dat) (y : Dat) (hx : xs.length ≤ 1000000000) (hy : y.cells.length = 7) :
  KT 162 [.ms 1000 v, .d (.int .i64 xs.length), .d (.list 7 [y])] [(1000, .row v 7 xs)] (.ms 1000 (v + 1)) [(1000, .row (v + 1) 7 (xs ++ [y]))] := by
 refine ok162.co (k := true) (closed_puts (by simp [puts, put, closedH, objIn, idsInL, idsIn])) (by simp [hputs, upd, inT, idsIn, idsInL]) ?_;simp only [go_sem, ir162, Nat.reduceAdd, Nat.reduceEqDiff, Nat.reduceBEq, Nat.reduceLeDiff, reduceCtorEq, ↓reduceIte];refine ⟨⟨oM, oM⟩, fun h => ?_, fun h => by omega⟩;simp at h
theorem get1 {α : Type} (o : α) (j : Nat) : Av.get [(1000, o)] j = if j = 1000 then some o else none := by
 by_cases h : j = 1000
 ·subst h; simp [Av.get]
 ·have h' : ¬ 1000 = j := fun e => h e.symm
  simp [Av.get, h, h']
theorem ins_end (i v : Nat) (xs : List Dat) (y : Dat) (hx : xs.length ≤ 1000000000) (hy : y.cells.length = 7) :
  CT (.fn 162) [.ms i v, .d (.int .i64 xs.length), .d (.list 7 [y])] [(i, some (.row v 7 xs))] (.ms i (v + 1)) [(i, .row (v + 1) 7 (xs ++ [y]))] := by
 have hg : ∀ j o, Av.get [(1000, Obj.row v 7 xs)] j = some o → j = 1000 ∧ o = .row v 7 xs := fun j o h => by
  rw [get1] at h;split at h
  ·cases h; exact ⟨by assumption, rfl⟩
  ·cases h
 have hp : ∀ j o, hputs (Av.get [(1000, Obj.row v 7 xs)]) [(1000, Obj.row (v + 1) 7 (xs ++ [y]))] j = some o → j = 1000 ∧ o = .row (v + 1) 7 (xs ++ [y]) := fun j o h => by
  simp only [hputs, upd, get1] at h;split at h
  ·cases h; exact ⟨by assumption, rfl⟩
  ·cases h
 have hs : ∀ j, (hputs (Av.get [(1000, Obj.row v 7 xs)]) [(1000, Obj.row (v + 1) 7 (xs ++ [y]))] j).isSome = true → j = 1000 := fun j h => by
  obtain ⟨o, ho⟩ := Option.isSome_iff_exists.1 h;exact (hp j o ho).1
 have := (con162 v xs y hx hy).call (fun _ => i) (by
   intro j h;obtain ⟨o, ho⟩ := Option.isSome_iff_exists.1 h;have := (hg j o ho).1
   omega) ?_ ?_ (by intro j o h; obtain ⟨_, rfl⟩ := hg j o h; trivial) [] ?_ ?_ ?_
 ·exact this
 ·intro a b ha hb e;rw [hs a ha, hs b hb]
 ·intro c hc;simp only [List.mem_cons, List.not_mem_nil, or_false] at hc;rcases hc with rfl | rfl | rfl
  ·simp [inT, get1, idsIn]
  ·trivial
  ·trivial
 ·intro e he;simp only [List.mem_cons, List.not_mem_nil, or_false] at he;subst he;exact .inl (by simp [get1])
 ·intro j o h;obtain ⟨_, rfl⟩ := hp j o h;trivial
 ·simp [hputs, upd, inT, idsIn]
theorem ins_at (i v k : Nat) (xs : List Dat) (y : Dat) (hk : k ≤ xs.length) (hx : xs.length ≤ 1000000000) (hy : y.cells.length = 7) :
  CT (.fn 162) [.ms i v, .d (.int .i64 k), .d (.list 7 [y])] [(i, some (.row v 7 xs))] (.ms i (v + 1)) [(i, .row (v + 1) 7 (xs.take k ++ y :: xs.drop k))] := by
 by_cases h : k < xs.length
 ·exact ins_ok i v k xs y h hx hy
 ·obtain rfl : k = xs.length := oM;rw [List.take_length, List.drop_length];exact ins_end i v xs y hx hy
end Go.Proofs
namespace Go.Proofs
open Go Av
variable {p : Part} {x v w : Val} {l : List Val} {i : Nat}
def evAI (p q : Part) : Bool := ((p.kind == 3) && (q.kind == 2)) || ((p.kind == 2) && (q.kind == 3))
def parEq (p q : Part) : Bool := (p.kind == q.kind) && ((p.index == q.index) && (p.name == q.name))
def touch : List Part → List Part → Bool
 | p :: l, q :: m => if !parEq p q && !evAI p q then false else touch l m
 | _, _ => true
theorem touch_nil (l : List Part) : touch l [] = true := by cases l <;> rfl
def setF (n : Str) (x : Val) : List Fld → List Fld
 | [] => []
 | f :: r => if f.name == n then .mk f.name x :: r else f :: setF n x r
def insF (n : Str) (x : Val) : List Fld → List Fld
 | [] => [.mk n x]
 | f :: r => if gtB f.name n then .mk n x :: f :: r else f :: insF n x r
def repV (p : Part) (x v : Val) : Val :=
 if p.kind == 1 then .mk v.kind v.int v.scale v.text v.list (setF p.name x v.fields) else .mk v.kind v.int v.scale v.text (v.list.set p.index.toNat x) v.fields
def insV (n : Str) (x v : Val) : Val := .mk v.kind v.int v.scale v.text v.list (insF n x v.fields)
def setR (x : Val) : List Part → Val → Val → Prop
 | [], _, _ => False
 | [p], v, w => appP p v = true ∧ ((ledP p v = [] ∧ p.kind = 1 ∧ w = insV p.name x v) ∨ (ledP p v ≠ [] ∧ w = repV p x v))
 | p :: q :: r, v, w => appP p v = true ∧ ∃ y t z, ledP p v = y :: t ∧ setR x (q :: r) y z ∧ w = repV p z v
theorem repV_1 (x v : Val) (h : p.kind = 1) : (repV p x v).fields = setF p.name x v.fields := by
 unfold repV; simp only [h, beq_self_eq_true, if_true]; rfl
theorem repV_2 (x v : Val) (h : p.kind ≠ 1) : (repV p x v).list = v.list.set p.index.toNat x ∧ (repV p x v).text = v.text := by
 have : (p.kind == 1) = false := sX h;unfold repV; simp only [this, Bool.false_eq_true, if_false]; exact ⟨rfl, rfl⟩
theorem insV_1 (n : Str) (x v : Val) : (insV n x v).fields = insF n x v.fields := rfl
theorem find_idx (q : Fld → Bool) : ∀ l : List Fld, (match l.findIdx? q with | some k => l[k]? | none => none) = l.find? q
 | [] => rfl
 | f :: r => by
  rw [List.findIdx?_cons, List.find?_cons];cases h : q f with
  | true => simp
  | false =>
   have ih := find_idx q r;simp only [Bool.false_eq_true, if_false];cases e : r.findIdx? q with
   | none => rw [e] at ih; simpa using ih
   | some k => rw [e] at ih; simpa using ih
theorem led_fld (p : Part) (v : Val) (h : p.kind = 1) : ledP p v = match v.fields.find? (fun f => f.name == p.name) with | some f => [f.value] | none => [] := by
 have hi := find_idx (fun f => f.name == p.name) v.fields;unfold ledP ixN ixF;simp only [h, beq_self_eq_true, if_true];cases e : v.fields.findIdx? (fun f => f.name == p.name) with
 | none => rw [e] at hi; rw [← hi]; simp
 | some k =>
  rw [e] at hi;obtain ⟨hk, _⟩ := List.findIdx?_eq_some_iff_getElem.1 e;rw [← hi];simp [List.getElem?_eq_getElem hk]
theorem find_setF {n m : Str} (x : Val) (h : n ≠ m) : ∀ l : List Fld, (setF n x l).find? (fun f => f.name == m) = l.find? (fun f => f.name == m)
 | [] => rfl
 | f :: r => by
  simp only [setF];split
  ·rename_i e;have e : f.name = n := sX e;have e1 : (Fld.name (.mk f.name x) == m) = false := by show (f.name == m) = false; simpa [e] using h
   have e2 : (f.name == m) = false := by simpa [e] using h
   rw [List.find?_cons, List.find?_cons, e1, e2]
  ·rw [List.find?_cons, List.find?_cons, find_setF x h r]
theorem find_setF_same (n : Str) (x : Val) : ∀ l : List Fld, (l.find? (fun f => f.name == n)).isSome = true → ∃ f, (setF n x l).find? (fun f => f.name == n) = some f ∧ f.value = x
 | [], h => by cases h
 | f :: r, h => by
  simp only [setF];cases e : f.name == n with
  | true =>
   refine ⟨.mk f.name x, ?_, rfl⟩;rw [if_pos rfl, List.find?_cons];have e1 : (Fld.name (.mk f.name x) == n) = true := e;rw [e1]
  | false =>
   rw [List.find?_cons, e] at h;obtain ⟨g, h1, h2⟩ := find_setF_same n x r h;refine ⟨g, ?_, h2⟩;rw [if_neg sP, List.find?_cons, e];exact h1
theorem find_insF {n m : Str} (x : Val) (h : n ≠ m) : ∀ l : List Fld, (insF n x l).find? (fun f => f.name == m) = l.find? (fun f => f.name == m)
 | [] => by
  have e1 : (Fld.name (.mk n x) == m) = false := by simpa [Fld.name] using h
  simp only [insF, List.find?_cons, e1]
 | f :: r => by
  have e1 : (Fld.name (.mk n x) == m) = false := by simpa [Fld.name] using h
  simp only [insF];split
  ·rw [List.find?_cons, e1]
  ·rw [List.find?_cons, List.find?_cons, find_insF x h r]
theorem setR_keep : ∀ {l : List Part} {v w : Val}, setR x l v w → w.kind = v.kind ∧ w.text = v.text ∧ w.list.length = v.list.length := by
 have hr : ∀ (p : Part) (x v : Val), (repV p x v).kind = v.kind ∧ (repV p x v).text = v.text ∧ (repV p x v).list.length = v.list.length := by
  intro p x v;unfold repV;split
  ·exact ⟨rfl, rfl, rfl⟩
  ·exact ⟨rfl, rfl, List.length_set⟩
 intro l v w h
 match l, h with
 | [p], h =>
  obtain ⟨_, ⟨_, _, rfl⟩ | ⟨_, rfl⟩⟩ := h
  ·exact ⟨rfl, rfl, rfl⟩
  ·exact hr p x v
 | p :: q :: r, h =>
  obtain ⟨_, y, t, z, _, _, rfl⟩ := h;exact hr p z v
theorem app_same {l : List Part} (h : setR x l v w) (p : Part) : appP p w = appP p v := by
 obtain ⟨h1, h2, h3⟩ := setR_keep h;unfold appP;rw [h1, h3]
theorem valid_kind (h : validP p = true) : (p.kind = 1 ∨ p.kind = 2 ∨ p.kind = 3 ∨ p.kind = 4) ∧ (p.kind = 2 ∨ p.index = 0) ∧ 0 ≤ p.index ∧ (p.kind = 2 → p.name = []) := by
 unfold validP at h;split at h
 ·rename_i hk;simp only [Bool.and_eq_true, beq_iff_eq] at h;exact ⟨oM, .inr h.1, oM, fun e => by omega⟩
 ·split at h
  ·rename_i hk;simp only [Bool.and_eq_true, beq_iff_eq, decide_eq_true_eq] at h;exact ⟨oM, .inl hk, oM, fun _ => h.1.1⟩
  ·split at h
   ·rename_i hk;simp only [Bool.and_eq_true, beq_iff_eq] at h;exact ⟨oM, .inr h.2, oM, fun e => by omega⟩
   ·cases h
theorem app_kind (hp : validP p = true) (h : appP p v = true) : (p.kind = 1 → v.kind = 9) ∧ (p.kind = 4 → v.kind = 10 ∧ v.list.length = 1) ∧ (p.kind = 2 ∨ p.kind = 3 → v.kind = 8) := by
 unfold appP at h;refine ⟨fun e => ?_, fun e => ?_, fun e => ?_⟩
 ·rw [e] at h; simpa using h
 ·rw [e] at h; simp at h; exact ⟨h.1, oM⟩
 ·rcases e with e | e <;> rw [e] at h <;> simpa using h
theorem led_case (p : Part) (v : Val) (h : p.kind = 4) : ledP p v = if v.text = p.name then v.list else [] := by
 unfold ledP; simp [h]
theorem led_all (p : Part) (v : Val) (h : p.kind = 3) : ledP p v = v.list := by
 unfold ledP; simp [h]
theorem led_ix (p : Part) (v : Val) (h : p.kind = 2) (h0 : 0 ≤ p.index) : ledP p v = (v.list.drop p.index.toNat).take 1 := by
 unfold ledP;simp only [h];by_cases hi : p.index < (v.list.length : Int)
 ·simp [hi]
 ·have : v.list.drop p.index.toNat = [] := List.drop_eq_nil_of_le oM;simp [hi, this]
theorem drop_take_set {j : Nat} (z : Val) (h : i ≠ j) : ((l.set i z).drop j).take 1 = (l.drop j).take 1 := by
 apply List.ext_getElem?;intro k;rw [List.getElem?_take, List.getElem?_take];split
 ·rw [List.getElem?_drop, List.getElem?_drop, List.getElem?_set];have : ¬ i = j + k := oM;simp [this]
 ·rfl
theorem split_at {y : Val} {t : List Val} (h : (l.drop i).take 1 = y :: t) : t = [] ∧ i < l.length ∧ l = l.take i ++ y :: l.drop (i + 1) := by
 have hi : i < l.length := by
  rcases Nat.lt_or_ge i l.length with hi | hi
  ·exact hi
  ·rw [List.drop_eq_nil_of_le hi] at h; simp at h
 have e := List.drop_eq_getElem_cons hi;rw [e, List.take_succ_cons, List.take_zero] at h;obtain ⟨h1, h2⟩ := List.cons.inj h;subst h1;exact ⟨h2.symm, hi, by rw [← e, List.take_append_drop]⟩
theorem set_at (z : Val) (hi : i < l.length) : l.set i z = l.take i ++ z :: l.drop (i + 1) := by
 rw [List.set_eq_take_append_cons_drop, if_pos hi]
theorem led_other {p' : Part} {r : List Part} (hp : validP p = true) (hp' : validP p' = true) (hp3 : p.kind ≠ 3) (hs : setR x (p :: r) v w) (ha' : appP p' v = true)
  (hne : parEq p p' = false) (hev : evAI p p' = false) : ledP p' w = ledP p' v := by
 have ha : appP p v = true := by
  match r, hs with
  | [], hs => exact hs.1
  | _ :: _, hs => exact hs.1
 obtain ⟨k1, k2, k3, k4⟩ := valid_kind hp;obtain ⟨k1', k2', k3', k4'⟩ := valid_kind hp';obtain ⟨a1, a2, a3⟩ := app_kind hp ha;obtain ⟨b1, b2, b3⟩ := app_kind hp' ha';have hw : (∃ z, w = repV p z v ∧ ledP p v ≠ []) ∨ (p.kind = 1 ∧ w = insV p.name x v) := by
  match r, hs with
  | [], hs =>
   obtain ⟨_, ⟨_, h1, h2⟩ | ⟨h1, h2⟩⟩ := hs
   ·exact .inr ⟨h1, h2⟩
   ·exact .inl ⟨x, h2, h1⟩
  | _ :: _, hs =>
   obtain ⟨_, y, t, z, h1, _, h2⟩ := hs;exact .inl ⟨z, h2, by rw [h1]; exact List.cons_ne_nil _ _⟩
 rcases k1 with e | e | e | e
 ·
  have e' : p'.kind = 1 := by have := a1 e; rcases k1' with h | h | h | h <;> first | exact h | (have := b3 oM; omega) | (have := (b2 h).1; omega)
  have hn : p.name ≠ p'.name := by
   intro hn;simp [parEq, e, e', hn] at hne;omega
  rw [led_fld p' w e', led_fld p' v e'];rcases hw with ⟨z, rfl, _⟩ | ⟨_, rfl⟩
  ·rw [repV_1 _ _ e, find_setF z hn]
  ·rw [insV_1, find_insF x hn]
 ·
  have e' : p'.kind = 2 := by
   have := a3 (.inl e);rcases k1' with h | h | h | h
   ·have := b1 h; omega
   ·exact h
   ·exfalso; simp [evAI, e, h] at hev
   ·have := (b2 h).1; omega
  have hn : p.index ≠ p'.index := by
   intro hn;have h1 := k4 e;have h2 := k4' e';simp [parEq, e, e', hn, h1, h2] at hne
  rw [led_ix p' w e' k3', led_ix p' v e' k3'];rcases hw with ⟨z, rfl, _⟩ | ⟨h, _⟩
  ·rw [(repV_2 z v oM).1];exact drop_take_set z oM
  ·omega
 ·exact absurd e hp3
 ·
  have e' : p'.kind = 4 := by have := (a2 e).1; rcases k1' with h | h | h | h <;> first | exact h | (have := b3 oM; omega) | (have := b1 h; omega)
  have hn : p.name ≠ p'.name := by
   intro hn;simp [parEq, e, e', hn] at hne;omega
  rcases hw with ⟨z, rfl, hl⟩ | ⟨h, _⟩
  ·rw [led_case p v e] at hl;have ht : v.text = p.name := by
    by_cases h : v.text = p.name
    ·exact h
    ·rw [if_neg h] at hl; exact absurd rfl hl
   rw [led_case _ _ e', led_case _ _ e', if_neg, if_neg]
   ·rw [ht]; exact hn
   ·rw [(repV_2 z v oM).2, ht]; exact hn
  ·omega
theorem led_same {p' : Part} {q : Part} {r : List Part} (hp : validP p = true) (hp' : validP p' = true) (hp3 : p.kind ≠ 3) (hs : setR x (p :: q :: r) v w)
  (hm : parEq p p' = true ∨ evAI p p' = true) : ∃ a b y z, ledP p' v = a ++ y :: b ∧ ledP p' w = a ++ z :: b ∧ setR x (q :: r) y z := by
 obtain ⟨ha, y, t, z, h1, h2, rfl⟩ := hs;obtain ⟨k1, k2, k3, k4⟩ := valid_kind hp;obtain ⟨a1, a2, a3⟩ := app_kind hp ha;rcases hm with hm | hm
 ·have e : p' = p := by
   simp only [parEq, Bool.and_eq_true, beq_iff_eq] at hm;cases p; cases p'; simp_all
  subst e;refine ⟨[], [], y, z, ?_, ?_, h2⟩
  ·rcases k1 with e | e | e | e
   ·rw [led_fld _ _ e] at h1 ⊢;split at h1
    ·rename_i f hf; simp at h1; obtain ⟨rfl, rfl⟩ := h1; simp
    ·cases h1
   ·rw [led_ix _ _ e k3] at h1 ⊢;obtain ⟨rfl, _, _⟩ := split_at h1;exact h1
   ·exact absurd e hp3
   ·have hl := (a2 e).2;rw [led_case _ _ e] at h1 ⊢;split at h1
    ·rw [h1] at hl; cases t with
     | nil => rename_i ht; rw [if_pos ht]; exact h1
     | cons _ _ => simp at hl
    ·cases h1
  ·rcases k1 with e | e | e | e
   ·rw [led_fld _ _ e] at h1 ⊢;rw [repV_1 _ _ e];obtain ⟨f, g1, g2⟩ := find_setF_same p'.name z v.fields (by
     split at h1
     ·rename_i f hf; rw [hf]; rfl
     ·cases h1)
    rw [g1, ← g2];simp
   ·rw [led_ix _ _ e k3] at h1 ⊢;obtain ⟨_, hi, _⟩ := split_at h1;rw [(repV_2 z v oM).1, set_at z hi, List.drop_append_of_le_length sO];have : (v.list.take p'.index.toNat).drop p'.index.toNat = [] := List.drop_eq_nil_of_le sO;rw [this];simp
   ·exact absurd e hp3
   ·have hl := (a2 e).2;have hi : p'.index = 0 := oM;rw [led_case _ _ e] at h1 ⊢;rw [(repV_2 z v oM).1, (repV_2 z v oM).2];split at h1
    ·rename_i ht;rw [if_pos ht, hi]
     match hv : v.list, hl with
     | [u], _ => simp
    ·cases h1
 ·have e : p.kind = 2 := by
   simp only [evAI, Bool.or_eq_true, Bool.and_eq_true, beq_iff_eq] at hm;omega
  have e' : p'.kind = 3 := by
   simp only [evAI, Bool.or_eq_true, Bool.and_eq_true, beq_iff_eq] at hm;omega
  rw [led_ix _ _ e k3] at h1;obtain ⟨_, hi, hv⟩ := split_at h1;refine ⟨v.list.take p.index.toNat, v.list.drop (p.index.toNat + 1), y, z, ?_, ?_, h2⟩
  ·rw [led_all _ _ e']; exact hv
  ·rw [led_all _ _ e'];rw [(repV_2 z v oM).1];exact set_at z hi
theorem walk_set (x : Val) : ∀ (q l : List Part) (a b : List Val) (v w : Val), (∀ p ∈ q, validP p = true) → (∀ p ∈ l, validP p = true ∧ p.kind ≠ 3) → setR x l v w → touch l q = false →
  walkN q (a ++ v :: b) = walkN q (a ++ w :: b)
 | [], l, a, b, v, w, _, _, _, ht => by rw [touch_nil] at ht; cases ht
 | p' :: q', [], a, b, v, w, _, _, hs, _ => hs.elim
 | p' :: q', p :: r, a, b, v, w, hq, hl, hs, ht => by
  have hp' := hq p' List.mem_cons_self;obtain ⟨hp, hp3⟩ := hl p List.mem_cons_self;have hal : (a ++ w :: b).all (appP p') = (a ++ v :: b).all (appP p') := by
   simp only [List.all_append, List.all_cons, app_same hs]
  simp only [walkN];rw [hal];split
  ·rename_i hap;have ha' : appP p' v = true := List.all_eq_true.1 hap v sP;have hfl : ∀ u : Val, (a ++ u :: b).flatMap (ledP p') = a.flatMap (ledP p') ++ (ledP p' u ++ b.flatMap (ledP p')) := fun u => by
    simp [List.flatMap_append, List.flatMap_cons]
   rw [hfl, hfl];simp only [touch] at ht;by_cases hm : parEq p p' = true ∨ evAI p p' = true
   ·have ht2 : touch r q' = false := by
     rw [if_neg] at ht
     ·exact ht
     ·rcases hm with h | h <;> simp [h]
    match r, ht2, hs, hl with
    | [], ht2, _, _ => cases ht2
    | q :: r, ht2, hs, hl =>
     obtain ⟨A, B, y, z, e1, e2, hs2⟩ := led_same hp hp' hp3 hs hm;rw [e1, e2];have ih := walk_set x q' (q :: r) (a.flatMap (ledP p') ++ A) (B ++ b.flatMap (ledP p')) y z (fun p h => hq p (List.mem_cons_of_mem _ h)) (fun p h => hl p (List.mem_cons_of_mem _ h)) hs2 ht2;simpa using ih
   ·have h1 : parEq p p' = false := by simpa using fun h => hm (.inl h)
    have h2 : evAI p p' = false := by simpa using fun h => hm (.inr h)
    rw [led_other hp hp' hp3 hs ha' h1 h2]
  ·rfl
theorem find_set {l : List Part} (hl : ∀ p ∈ l, validP p = true ∧ p.kind ≠ 3) (hs : setR x l v w) (q : List Part) (ht : touch l q = false) : findV v q = findV w q := by
 unfold findV;cases hq : chkP q != 0 with
 | true => rfl
 | false =>
  simp only [Bool.false_eq_true, if_false];have := walk_set x q l [] [] v w (chkP_ok hq).2 hl hs ht;simp only [List.nil_append] at this;rw [this]
end Go.Proofs
namespace Go.Proofs
open Go Av
def sftB (f : Nat) (d : Int) (c : UInt8) : UInt8 := if f ≤ c.toNat ∧ c.toNat - f < 26 then UInt8.ofNat ((c.toNat : Int) + d).toNat else c
def sftS (s : Str) (f : Nat) (d : Int) : Str := s.map (sftB f d)
def Sft0 : Prop := (∀ s : Str, CT 343 [.d (.str s), .d (.int .u8 65), .d (.int .i64 32)] [] (.d (.str (sftS s 65 32))) []) ∧
 ∀ s : Str, CT 343 [.d (.str s), .d (.int .u8 97), .d (.int .i64 (-32))] [] (.d (.str (sftS s 97 (-32)))) []
theorem walk275 (hs : Sft0) (s : Str) : PT 275 [.str s] (.d (.str (sftS s 65 32))) := by
 refine ok275.pc ?_;simp only [go_sem, ir275, simprocAttr];refine wc (hs.1 s) trivial
theorem walk276 (hs : Sft0) (s : Str) : PT 276 [.str s] (.d (.str (sftS s 97 (-32)))) := by
 refine ok276.pc ?_;simp only [go_sem, ir276, simprocAttr];refine wc (hs.2 s) trivial
def flatV (w : Val) : Prop := w.list = [] ∧ w.fields = []
theorem numV_flat (wh : Bool) (n : Int × Int) (er : Int) : flatV (numV wh n er) ∧ (numV wh n er).text = [] := by
 unfold numV;split
 ·exact ⟨⟨rfl, rfl⟩, rfl⟩
 split <;> exact ⟨⟨rfl, rfl⟩, rfl⟩
def lenM (v : Val) (x : Int) : Val × Int :=
 if (v.kind == 4) || (v.kind == 5) then (.mk 2 ((v.text.length : Nat) : Int) 0 [] [] [], x) else if v.kind == 8 then (.mk 2 ((v.list.length : Nat) : Int) 0 [] [] [], x) else (zeroV, failE x 18)
theorem un_x (op : Int) (v env : Val) (x : Int) (hx : x ≠ 0) : MCon 197 [.int .i64 op, encV v] env x (.d (encV zeroV)) x := by
 refine ok197.co (k := false) (mO_closed _ _ _) trivial ?_;have hb : (x != 0) = true := by simp [hx]
 generalize hz : zeroV = z;rw [encV_eq v, encV_eq z];simp only [go_sem, mC, ir197, hb, List.map_cons, List.map_nil, Int.reduceBEq, simprocAttr];subst hz;exact rfl
def negM (v : Val) (x : Int) : Val × Int := if !isN v then (zeroV, failE x 18) else (numV (v.kind == 2) (negN (ofN v)).1 (negN (ofN v)).2, numE (negN (ofN v)).2 x)
theorem un_16 (v env : Val) : MCon 197 [.int .i64 16, encV v] env 0 (.d (encV (negM v 0).1)) (negM v 0).2 := by
 refine ok197.co (k := false) (mO_closed _ _ _) trivial ?_;have hb : ((0 : Int) != 0) = false := rfl;have c33 := (walk190 env 0 18).to trivial;have c261 := (walk261 v).call trivial;have c263 := (walk263 v).call trivial;have c272 := (walk272 (ofN v)).call (by simp [pureR]);have cN := fun (wh : Bool) (n : Int × Int) (er : Int) => (walk265 wh n er env 0).to trivial
 generalize hT : negM v 0 = T;unfold negM at hT;rw [encV_eq v] at c261 c263;simp only [encN] at c263 c272 cN;rw [encV_eq v];simp only [go_sem, mC, ir197, hb, List.map_cons, List.map_nil, Int.reduceBEq, simprocAttr];refine wn c261 ?_;simp only [go_sem, mC, hb, List.map_cons, List.map_nil, Int.reduceBEq, simprocAttr];apply ik <;> intro h0
 ·rw [if_pos h0] at hT;rw [← hT];rw [encV_eq];generalize zeroV = z at *;refine wn c33 ?_;rw [encV_eq];refine zz1 ?_;exact zf
 rw [if_neg (nF h0)] at hT;rw [← hT];generalize negN (ofN v) = N at *;have c265 := cN (v.kind == 2) N.1 N.2;rw [encV_eq (numV _ _ _)];generalize numV (v.kind == 2) N.1 N.2 = z at *
 try refine zz1 ?_
 refine wn c263 ?_;refine zz1 ?_;refine wn c272 ?_;refine zz1 ?_;refine wn c265 ?_;rw [encV_eq];refine zz1 ?_;exact zf
theorem un_18 (v env : Val) : MCon 197 [.int .i64 18, encV v] env 0 (.d (encV (lenM v 0).1)) (lenM v 0).2 := by
 refine ok197.co (k := false) (mO_closed _ _ _) trivial ?_;have hb : ((0 : Int) != 0) = false := rfl;have c33 := (walk190 env 0 18).to trivial;have ct := (walk10 ((v.text.length : Nat) : Int)).call trivial;have cl := (walk10 ((v.list.length : Nat) : Int)).call trivial;generalize hT : lenM v 0 = T;unfold lenM at hT;rw [encV_eq v, encV_eq T.1];simp only [go_sem, mC, ir197, hb, List.map_cons, List.map_nil, Int.reduceBEq, simprocAttr];cases k4 : (v.kind == 4) with
 | true =>
  rw [k4, Bool.true_or, if_pos rfl] at hT;rw [← hT];refine zz91 ?_;refine wn ct ?_;simp only [encV_eq];refine zz1 ?_;exact zf
 | false =>
  rw [k4, Bool.false_or] at hT;refine zz91 ?_;cases k5 : (v.kind == 5) with
  | true =>
   rw [k5, if_pos rfl] at hT;rw [← hT];simp only [go_sem, mC, k5, List.map_cons, List.map_nil, Int.reduceBEq, simprocAttr];refine wn ct ?_;simp only [encV_eq];refine zz1 ?_;exact zf
  | false =>
   rw [k5, if_neg Bool.false_ne_true] at hT;simp only [go_sem, mC, k5, List.length_map, List.map_cons, List.map_nil, Int.reduceBEq, simprocAttr];apply ik <;> intro h8
   ·rw [if_pos h8] at hT;rw [← hT];refine wn cl ?_;simp only [encV_eq];refine zz1 ?_;exact zf
   ·rw [if_neg (nF h8)] at hT;rw [← hT];refine wn c33 ?_;generalize zeroV = z at *;rw [encV_eq];refine zz1 ?_;exact zf
theorem un_28 (hrep : Rep0) (v env : Val) : MCon 197 [.int .i64 28, encV v] env 0 (.d (encV (nmbM v 0).1)) (nmbM v 0).2 := by
 have c274 := (walk274 hrep v env 0).to trivial;refine ok197.co (k := false) (mO_closed _ _ _) trivial ?_;have hb : ((0 : Int) != 0) = false := rfl;generalize nmbM v 0 = R at *;rw [encV_eq v, encV_eq R.1] at c274;rw [encV_eq v, encV_eq R.1];simp only [go_sem, mC, ir197, hb, List.map_cons, List.map_nil, Int.reduceBEq, simprocAttr];refine wn c274 ?_;refine zz1 ?_;exact zf
def cseM (op : Int) (v : Val) (x : Int) : Val × Int := if v.kind != 4 then (zeroV, failE x 18) else (.mk 4 0 0 (if op == 19 then sftS v.text 65 32 else sftS v.text 97 (-32)) [] [], x)
theorem un_19 (hs : Sft0) (v env : Val) : MCon 197 [.int .i64 19, encV v] env 0 (.d (encV (cseM 19 v 0).1)) (cseM 19 v 0).2 := by
 refine ok197.co (k := false) (mO_closed _ _ _) trivial ?_;have hb : ((0 : Int) != 0) = false := rfl;have c33 := (walk190 env 0 18).to trivial;have cs := (walk275 hs v.text).call trivial;have c216 := (walk216 (sftS v.text 65 32)).call trivial;generalize hT : cseM 19 v 0 = T;unfold cseM at hT;rw [encV_eq v, encV_eq T.1];simp only [go_sem, mC, ir197, hb, List.map_cons, List.map_nil, Int.reduceBEq, simprocAttr];apply ik <;> intro h0
 ·rw [if_pos h0] at hT;rw [← hT];refine wn c33 ?_;generalize zeroV = z at *;rw [encV_eq];refine zz1 ?_;exact zf
 rw [if_neg (nF h0)] at hT;have e : (if (19 : Int) == 19 then sftS v.text 65 32 else sftS v.text 97 (-32)) = sftS v.text 65 32 := rfl;rw [e] at hT;rw [← hT]
 try refine zz13 ?_
 refine wn cs ?_;refine zz1 ?_;refine wn c216 ?_;simp only [encV_eq];refine zz1 ?_;exact zf
theorem un_20 (hs : Sft0) (v env : Val) : MCon 197 [.int .i64 20, encV v] env 0 (.d (encV (cseM 20 v 0).1)) (cseM 20 v 0).2 := by
 refine ok197.co (k := false) (mO_closed _ _ _) trivial ?_;have hb : ((0 : Int) != 0) = false := rfl;have c33 := (walk190 env 0 18).to trivial;have cs := (walk276 hs v.text).call trivial;have c216 := (walk216 (sftS v.text 97 (-32))).call trivial;generalize hT : cseM 20 v 0 = T;unfold cseM at hT;rw [encV_eq v, encV_eq T.1];simp only [go_sem, mC, ir197, hb, List.map_cons, List.map_nil, Int.reduceBEq, simprocAttr];apply ik <;> intro h0
 ·rw [if_pos h0] at hT;rw [← hT];refine wn c33 ?_;generalize zeroV = z at *;rw [encV_eq];refine zz1 ?_;exact zf
 rw [if_neg (nF h0)] at hT;have e : (if (20 : Int) == 19 then sftS v.text 65 32 else sftS v.text 97 (-32)) = sftS v.text 97 (-32) := rfl;rw [e] at hT;rw [← hT]
 try refine zz13 ?_
 refine wn cs ?_;refine zz1 ?_;refine wn c216 ?_;simp only [encV_eq];refine zz1 ?_;exact zf
theorem nthC (a b c : Dat) (l : List Dat) : nth (a :: b :: c :: l) (Int.toNat 2) = c := rfl
theorem ev_not (n : Int) (t : Str) (vs : List Val) (p : Exp) (env va : Val) (y : Int) (hp : MCon 95 [encE p] env 0 (.d (encV va)) y) :
  MCon 95 [encE (.mk 3 n t vs [p])] env 0 (.d (encV (boolV (!truB va y)))) (truE va y) := by
 refine ok95c.co (k := false) (mO_closed _ _ _) trivial ?_;have hb : ((0 : Int) != 0) = false := rfl;have c186 := walk186.call trivial;have hl : findM .i [(.int .i64 8, .fn (.func 257) [] []), (.int .i64 9, .fn (.func 258) [] []), (.int .i64 10, .fn (.func 259) [] []), (.int .i64 11, .fn (.func 260) [] [])] (.int .i64 3) = some none := rfl;rw [relM] at c186;have n1 := (walk192 p env va 0 y hp).to trivial;have c188 := (walk188 (!truB va y)).call trivial;generalize boolV (!truB va y) = R at *;rw [encE_eq];simp only [Exp.op, Exp.int, Exp.text, Exp.value, Exp.args, List.map_cons, List.map_nil];rw [encE_eq p] at n1 ⊢;rw [encV_eq R] at c188 ⊢;simp only [go_sem, ir95c, mC, hb, List.map_cons, List.map_nil, Int.reduceBEq, Nat.reduceAdd, Nat.reduceEqDiff, Nat.reduceBEq, Nat.reduceLeDiff, reduceCtorEq, ↓reduceIte];refine wpsL_call rfl c186 trivial ?_;refine zz6 ?_;refine ⟨rfl, ?_⟩;simp only [go_sem, b95_27, nthA, nthB, nthC, Int.reduceBEq, Nat.reduceAdd, Nat.reduceEqDiff, Nat.reduceBEq, Nat.reduceLeDiff, reduceCtorEq, ↓reduceIte];simp only [go_sem, b95_26, nthA, nthB, nthC, Int.reduceBEq, Nat.reduceAdd, Nat.reduceEqDiff, Nat.reduceBEq, Nat.reduceLeDiff, reduceCtorEq, ↓reduceIte];simp only [go_sem, b95_6, nthA, nthB, nthC, Int.reduceBEq, Nat.reduceAdd, Nat.reduceEqDiff, Nat.reduceBEq, Nat.reduceLeDiff, reduceCtorEq, ↓reduceIte];refine ⟨sP, wn n1 ?_⟩;refine zz4 ?_;refine wn c188 ?_;refine zz4 ?_;exact zf
theorem ev_and_g (n : Int) (t : Str) (vs : List Val) (p q : Exp) (env va : Val) (y1 : Int) (vb : Val) (y2 : Int) (hp : MCon 95 [encE p] env 0 (.d (encV va)) y1) (hq : MCon 95 [encE q] env (truE va y1) (.d (encV vb)) y2) (hc : truB va y1 = true) :
  MCon 95 [encE (.mk 4 n t vs [p, q])] env 0 (.d (encV (boolV (truB vb y2)))) (truE vb y2) := by
 refine ok95c.co (k := false) (mO_closed _ _ _) trivial ?_;have hb : ((0 : Int) != 0) = false := rfl;have c186 := walk186.call trivial;have hl : findM .i [(.int .i64 8, .fn (.func 257) [] []), (.int .i64 9, .fn (.func 258) [] []), (.int .i64 10, .fn (.func 259) [] []), (.int .i64 11, .fn (.func 260) [] [])] (.int .i64 4) = some none := rfl;rw [relM] at c186;have n1 := (walk192 p env va 0 y1 hp).to trivial;rw [hc] at n1;have n2 := (walk192 q env vb (truE va y1) y2 hq).to trivial;have c188 := (walk188 (truB vb y2)).call trivial;generalize boolV (truB vb y2) = R at *;generalize truE va y1 = x1 at *;rw [encE_eq];simp only [Exp.op, Exp.int, Exp.text, Exp.value, Exp.args, List.map_cons, List.map_nil];rw [encE_eq p] at n1;rw [encE_eq q] at n2;rw [encE_eq p, encE_eq q];rw [encV_eq R] at c188 ⊢;simp only [go_sem, ir95c, mC, hb, List.map_cons, List.map_nil, Int.reduceBEq, Nat.reduceAdd, Nat.reduceEqDiff, Nat.reduceBEq, Nat.reduceLeDiff, reduceCtorEq, ↓reduceIte];refine wpsL_call rfl c186 trivial ?_;refine zz6 ?_;refine ⟨rfl, ?_⟩;simp only [go_sem, b95_27, nthA, nthB, nthC, Int.reduceBEq, Nat.reduceAdd, Nat.reduceEqDiff, Nat.reduceBEq, Nat.reduceLeDiff, reduceCtorEq, ↓reduceIte];simp only [go_sem, b95_26, nthA, nthB, nthC, Int.reduceBEq, Nat.reduceAdd, Nat.reduceEqDiff, Nat.reduceBEq, Nat.reduceLeDiff, reduceCtorEq, ↓reduceIte];simp only [go_sem, b95_25, nthA, nthB, nthC, Int.reduceBEq, Nat.reduceAdd, Nat.reduceEqDiff, Nat.reduceBEq, Nat.reduceLeDiff, reduceCtorEq, ↓reduceIte];simp only [go_sem, b95_7, nthA, nthB, nthC, Int.reduceBEq, Nat.reduceAdd, Nat.reduceEqDiff, Nat.reduceBEq, Nat.reduceLeDiff, reduceCtorEq, ↓reduceIte];refine ⟨sP, wn n1 ?_⟩;refine zz4 ?_;refine ⟨sP, wn n2 ?_⟩;refine zz4 ?_;refine wn c188 ?_;refine zz4 ?_;exact zf
theorem ev_and_s (n : Int) (t : Str) (vs : List Val) (p q : Exp) (env va : Val) (y1 : Int)  (hp : MCon 95 [encE p] env 0 (.d (encV va)) y1) (hc : truB va y1 = false) :
  MCon 95 [encE (.mk 4 n t vs [p, q])] env 0 (.d (encV (boolV (false)))) (truE va y1) := by
 refine ok95c.co (k := false) (mO_closed _ _ _) trivial ?_;have hb : ((0 : Int) != 0) = false := rfl;have c186 := walk186.call trivial;have hl : findM .i [(.int .i64 8, .fn (.func 257) [] []), (.int .i64 9, .fn (.func 258) [] []), (.int .i64 10, .fn (.func 259) [] []), (.int .i64 11, .fn (.func 260) [] [])] (.int .i64 4) = some none := rfl;rw [relM] at c186;have n1 := (walk192 p env va 0 y1 hp).to trivial;rw [hc] at n1
 skip
 have c188 := (walk188 (false)).call trivial;generalize boolV (false) = R at *;generalize truE va y1 = x1 at *;rw [encE_eq];simp only [Exp.op, Exp.int, Exp.text, Exp.value, Exp.args, List.map_cons, List.map_nil];rw [encE_eq p] at n1
 skip
 rw [encE_eq p, encE_eq q];rw [encV_eq R] at c188 ⊢;simp only [go_sem, ir95c, mC, hb, List.map_cons, List.map_nil, Int.reduceBEq, Nat.reduceAdd, Nat.reduceEqDiff, Nat.reduceBEq, Nat.reduceLeDiff, reduceCtorEq, ↓reduceIte];refine wpsL_call rfl c186 trivial ?_;refine zz6 ?_;refine ⟨rfl, ?_⟩;simp only [go_sem, b95_27, nthA, nthB, nthC, Int.reduceBEq, Nat.reduceAdd, Nat.reduceEqDiff, Nat.reduceBEq, Nat.reduceLeDiff, reduceCtorEq, ↓reduceIte];simp only [go_sem, b95_26, nthA, nthB, nthC, Int.reduceBEq, Nat.reduceAdd, Nat.reduceEqDiff, Nat.reduceBEq, Nat.reduceLeDiff, reduceCtorEq, ↓reduceIte];simp only [go_sem, b95_25, nthA, nthB, nthC, Int.reduceBEq, Nat.reduceAdd, Nat.reduceEqDiff, Nat.reduceBEq, Nat.reduceLeDiff, reduceCtorEq, ↓reduceIte];simp only [go_sem, b95_7, nthA, nthB, nthC, Int.reduceBEq, Nat.reduceAdd, Nat.reduceEqDiff, Nat.reduceBEq, Nat.reduceLeDiff, reduceCtorEq, ↓reduceIte];refine ⟨sP, wn n1 ?_⟩;refine zz4 ?_
 skip
 refine wn c188 ?_;refine zz4 ?_;exact zf
theorem ev_or_g (n : Int) (t : Str) (vs : List Val) (p q : Exp) (env va : Val) (y1 : Int) (vb : Val) (y2 : Int) (hp : MCon 95 [encE p] env 0 (.d (encV va)) y1) (hq : MCon 95 [encE q] env (truE va y1) (.d (encV vb)) y2) (hc : truB va y1 = false) :
  MCon 95 [encE (.mk 5 n t vs [p, q])] env 0 (.d (encV (boolV (truB vb y2)))) (truE vb y2) := by
 refine ok95c.co (k := false) (mO_closed _ _ _) trivial ?_;have hb : ((0 : Int) != 0) = false := rfl;have c186 := walk186.call trivial;have hl : findM .i [(.int .i64 8, .fn (.func 257) [] []), (.int .i64 9, .fn (.func 258) [] []), (.int .i64 10, .fn (.func 259) [] []), (.int .i64 11, .fn (.func 260) [] [])] (.int .i64 5) = some none := rfl;rw [relM] at c186;have n1 := (walk192 p env va 0 y1 hp).to trivial;rw [hc] at n1;have n2 := (walk192 q env vb (truE va y1) y2 hq).to trivial;have c188 := (walk188 (truB vb y2)).call trivial;generalize boolV (truB vb y2) = R at *;generalize truE va y1 = x1 at *;rw [encE_eq];simp only [Exp.op, Exp.int, Exp.text, Exp.value, Exp.args, List.map_cons, List.map_nil];rw [encE_eq p] at n1;rw [encE_eq q] at n2;rw [encE_eq p, encE_eq q];rw [encV_eq R] at c188 ⊢;simp only [go_sem, ir95c, mC, hb, List.map_cons, List.map_nil, Int.reduceBEq, Nat.reduceAdd, Nat.reduceEqDiff, Nat.reduceBEq, Nat.reduceLeDiff, reduceCtorEq, ↓reduceIte];refine wpsL_call rfl c186 trivial ?_;refine zz6 ?_;refine ⟨rfl, ?_⟩;simp only [go_sem, b95_27, nthA, nthB, nthC, Int.reduceBEq, Nat.reduceAdd, Nat.reduceEqDiff, Nat.reduceBEq, Nat.reduceLeDiff, reduceCtorEq, ↓reduceIte];simp only [go_sem, b95_26, nthA, nthB, nthC, Int.reduceBEq, Nat.reduceAdd, Nat.reduceEqDiff, Nat.reduceBEq, Nat.reduceLeDiff, reduceCtorEq, ↓reduceIte];simp only [go_sem, b95_25, nthA, nthB, nthC, Int.reduceBEq, Nat.reduceAdd, Nat.reduceEqDiff, Nat.reduceBEq, Nat.reduceLeDiff, reduceCtorEq, ↓reduceIte];simp only [go_sem, b95_8, nthA, nthB, nthC, Int.reduceBEq, Nat.reduceAdd, Nat.reduceEqDiff, Nat.reduceBEq, Nat.reduceLeDiff, reduceCtorEq, ↓reduceIte];refine ⟨sP, wn n1 ?_⟩;refine zz4 ?_;refine ⟨sP, wn n2 ?_⟩;refine zz4 ?_;refine wn c188 ?_;refine zz4 ?_;exact zf
theorem ev_or_s (n : Int) (t : Str) (vs : List Val) (p q : Exp) (env va : Val) (y1 : Int)  (hp : MCon 95 [encE p] env 0 (.d (encV va)) y1) (hc : truB va y1 = true) :
  MCon 95 [encE (.mk 5 n t vs [p, q])] env 0 (.d (encV (boolV (true)))) (truE va y1) := by
 refine ok95c.co (k := false) (mO_closed _ _ _) trivial ?_;have hb : ((0 : Int) != 0) = false := rfl;have c186 := walk186.call trivial;have hl : findM .i [(.int .i64 8, .fn (.func 257) [] []), (.int .i64 9, .fn (.func 258) [] []), (.int .i64 10, .fn (.func 259) [] []), (.int .i64 11, .fn (.func 260) [] [])] (.int .i64 5) = some none := rfl;rw [relM] at c186;have n1 := (walk192 p env va 0 y1 hp).to trivial;rw [hc] at n1
 skip
 have c188 := (walk188 (true)).call trivial;generalize boolV (true) = R at *;generalize truE va y1 = x1 at *;rw [encE_eq];simp only [Exp.op, Exp.int, Exp.text, Exp.value, Exp.args, List.map_cons, List.map_nil];rw [encE_eq p] at n1
 skip
 rw [encE_eq p, encE_eq q];rw [encV_eq R] at c188 ⊢;simp only [go_sem, ir95c, mC, hb, List.map_cons, List.map_nil, Int.reduceBEq, Nat.reduceAdd, Nat.reduceEqDiff, Nat.reduceBEq, Nat.reduceLeDiff, reduceCtorEq, ↓reduceIte];refine wpsL_call rfl c186 trivial ?_;refine zz6 ?_;refine ⟨rfl, ?_⟩;simp only [go_sem, b95_27, nthA, nthB, nthC, Int.reduceBEq, Nat.reduceAdd, Nat.reduceEqDiff, Nat.reduceBEq, Nat.reduceLeDiff, reduceCtorEq, ↓reduceIte];simp only [go_sem, b95_26, nthA, nthB, nthC, Int.reduceBEq, Nat.reduceAdd, Nat.reduceEqDiff, Nat.reduceBEq, Nat.reduceLeDiff, reduceCtorEq, ↓reduceIte];simp only [go_sem, b95_25, nthA, nthB, nthC, Int.reduceBEq, Nat.reduceAdd, Nat.reduceEqDiff, Nat.reduceBEq, Nat.reduceLeDiff, reduceCtorEq, ↓reduceIte];simp only [go_sem, b95_8, nthA, nthB, nthC, Int.reduceBEq, Nat.reduceAdd, Nat.reduceEqDiff, Nat.reduceBEq, Nat.reduceLeDiff, reduceCtorEq, ↓reduceIte];refine ⟨sP, wn n1 ?_⟩;refine zz4 ?_
 skip
 refine wn c188 ?_;refine zz4 ?_;exact zf
theorem ev_eq (n : Int) (t : Str) (vs : List Val) (p q : Exp) (env va vb : Val) (y1 y2 : Int) (hp : MCon 95 [encE p] env 0 (.d (encV va)) y1) (hq : MCon 95 [encE q] env (needE va y1) (.d (encV vb)) y2) (oa : okV (needV va y1)) (ob : okV (needV vb y2)) :
  MCon 95 [encE (.mk 6 n t vs [p, q])] env 0 (.d (encV (boolV ((eqlM (needV va y1) (needV vb y2) (needE vb y2)).1 == true)))) (eqlM (needV va y1) (needV vb y2) (needE vb y2)).2 := by
 refine ok95c.co (k := false) (mO_closed _ _ _) trivial ?_;have hb : ((0 : Int) != 0) = false := rfl;have c186 := walk186.call trivial;have hl : findM .i [(.int .i64 8, .fn (.func 257) [] []), (.int .i64 9, .fn (.func 258) [] []), (.int .i64 10, .fn (.func 259) [] []), (.int .i64 11, .fn (.func 260) [] [])] (.int .i64 6) = some none := rfl;rw [relM] at c186;have n1 := (walk187 p env va 0 y1 hp).to trivial;have n2 := (walk187 q env vb (needE va y1) y2 hq).to trivial;have c193 := (walk193 (needV va y1) (needV vb y2) env (needE vb y2) oa ob).to trivial;generalize eqlM (needV va y1) (needV vb y2) (needE vb y2) = R at *;have c188 := (walk188 (R.1 == true)).call trivial;generalize boolV (R.1 == true) = W at *;generalize needV va y1 = wa at *;generalize needV vb y2 = wb at *;generalize needE vb y2 = x2 at *;generalize needE va y1 = x1 at *;rw [encE_eq];simp only [Exp.op, Exp.int, Exp.text, Exp.value, Exp.args, List.map_cons, List.map_nil];rw [encE_eq p] at n1 ⊢;rw [encE_eq q] at n2 ⊢;rw [encV_eq] at n1 n2;rw [encV_eq wa, encV_eq wb] at c193;rw [encV_eq W] at c188 ⊢;simp only [go_sem, ir95c, mC, hb, List.map_cons, List.map_nil, Int.reduceBEq, Nat.reduceAdd, Nat.reduceEqDiff, Nat.reduceBEq, Nat.reduceLeDiff, reduceCtorEq, ↓reduceIte];refine wpsL_call rfl c186 trivial ?_;refine zz6 ?_;refine ⟨rfl, ?_⟩;simp only [go_sem, b95_27, nthA, nthB, nthC, Int.reduceBEq, Nat.reduceAdd, Nat.reduceEqDiff, Nat.reduceBEq, Nat.reduceLeDiff, reduceCtorEq, ↓reduceIte];simp only [go_sem, b95_26, nthA, nthB, nthC, Int.reduceBEq, Nat.reduceAdd, Nat.reduceEqDiff, Nat.reduceBEq, Nat.reduceLeDiff, reduceCtorEq, ↓reduceIte];simp only [go_sem, b95_25, nthA, nthB, nthC, Int.reduceBEq, Nat.reduceAdd, Nat.reduceEqDiff, Nat.reduceBEq, Nat.reduceLeDiff, reduceCtorEq, ↓reduceIte];simp only [go_sem, b95_24, nthA, nthB, nthC, Int.reduceBEq, Nat.reduceAdd, Nat.reduceEqDiff, Nat.reduceBEq, Nat.reduceLeDiff, reduceCtorEq, ↓reduceIte];simp only [go_sem, b95_9, nthA, nthB, nthC, Int.reduceBEq, Nat.reduceAdd, Nat.reduceEqDiff, Nat.reduceBEq, Nat.reduceLeDiff, reduceCtorEq, ↓reduceIte];refine ⟨sP, wn n1 ?_⟩;refine zz4 ?_;refine ⟨sP, wn n2 ?_⟩;refine zz4 ?_;refine wpsL_call rfl c193 ⟨rfl, trivial⟩ ?_;refine zz4 ?_;refine wpsL_call rfl c188 trivial ?_;refine zz4 ?_
 first | exact rfl | exact ⟨rfl, rfl⟩ | exact ⟨rfl, rfl, rfl⟩
theorem ev_ne (n : Int) (t : Str) (vs : List Val) (p q : Exp) (env va vb : Val) (y1 y2 : Int) (hp : MCon 95 [encE p] env 0 (.d (encV va)) y1) (hq : MCon 95 [encE q] env (needE va y1) (.d (encV vb)) y2) (oa : okV (needV va y1)) (ob : okV (needV vb y2)) :
  MCon 95 [encE (.mk 7 n t vs [p, q])] env 0 (.d (encV (boolV ((eqlM (needV va y1) (needV vb y2) (needE vb y2)).1 == false)))) (eqlM (needV va y1) (needV vb y2) (needE vb y2)).2 := by
 refine ok95c.co (k := false) (mO_closed _ _ _) trivial ?_;have hb : ((0 : Int) != 0) = false := rfl;have c186 := walk186.call trivial;have hl : findM .i [(.int .i64 8, .fn (.func 257) [] []), (.int .i64 9, .fn (.func 258) [] []), (.int .i64 10, .fn (.func 259) [] []), (.int .i64 11, .fn (.func 260) [] [])] (.int .i64 7) = some none := rfl;rw [relM] at c186;have n1 := (walk187 p env va 0 y1 hp).to trivial;have n2 := (walk187 q env vb (needE va y1) y2 hq).to trivial;have c193 := (walk193 (needV va y1) (needV vb y2) env (needE vb y2) oa ob).to trivial;generalize eqlM (needV va y1) (needV vb y2) (needE vb y2) = R at *;have c188 := (walk188 (R.1 == false)).call trivial;generalize boolV (R.1 == false) = W at *;generalize needV va y1 = wa at *;generalize needV vb y2 = wb at *;generalize needE vb y2 = x2 at *;generalize needE va y1 = x1 at *;rw [encE_eq];simp only [Exp.op, Exp.int, Exp.text, Exp.value, Exp.args, List.map_cons, List.map_nil];rw [encE_eq p] at n1 ⊢;rw [encE_eq q] at n2 ⊢;rw [encV_eq] at n1 n2;rw [encV_eq wa, encV_eq wb] at c193;rw [encV_eq W] at c188 ⊢;simp only [go_sem, ir95c, mC, hb, List.map_cons, List.map_nil, Int.reduceBEq, Nat.reduceAdd, Nat.reduceEqDiff, Nat.reduceBEq, Nat.reduceLeDiff, reduceCtorEq, ↓reduceIte];refine wpsL_call rfl c186 trivial ?_;refine zz6 ?_;refine ⟨rfl, ?_⟩;simp only [go_sem, b95_27, nthA, nthB, nthC, Int.reduceBEq, Nat.reduceAdd, Nat.reduceEqDiff, Nat.reduceBEq, Nat.reduceLeDiff, reduceCtorEq, ↓reduceIte];simp only [go_sem, b95_26, nthA, nthB, nthC, Int.reduceBEq, Nat.reduceAdd, Nat.reduceEqDiff, Nat.reduceBEq, Nat.reduceLeDiff, reduceCtorEq, ↓reduceIte];simp only [go_sem, b95_25, nthA, nthB, nthC, Int.reduceBEq, Nat.reduceAdd, Nat.reduceEqDiff, Nat.reduceBEq, Nat.reduceLeDiff, reduceCtorEq, ↓reduceIte];simp only [go_sem, b95_24, nthA, nthB, nthC, Int.reduceBEq, Nat.reduceAdd, Nat.reduceEqDiff, Nat.reduceBEq, Nat.reduceLeDiff, reduceCtorEq, ↓reduceIte];simp only [go_sem, b95_9, nthA, nthB, nthC, Int.reduceBEq, Nat.reduceAdd, Nat.reduceEqDiff, Nat.reduceBEq, Nat.reduceLeDiff, reduceCtorEq, ↓reduceIte];refine ⟨sP, wn n1 ?_⟩;refine zz4 ?_;refine ⟨sP, wn n2 ?_⟩;refine zz4 ?_;refine wpsL_call rfl c193 ⟨rfl, trivial⟩ ?_;refine zz4 ?_;refine wpsL_call rfl c188 trivial ?_;refine zz4 ?_
 first | exact rfl | exact ⟨rfl, rfl⟩ | exact ⟨rfl, rfl, rfl⟩
theorem ev_cat (n : Int) (t : Str) (vs : List Val) (p q : Exp) (env va vb : Val) (y1 y2 : Int) (hp : MCon 95 [encE p] env 0 (.d (encV va)) y1) (hq : MCon 95 [encE q] env (needE va y1) (.d (encV vb)) y2) :
  MCon 95 [encE (.mk 17 n t vs [p, q])] env 0 (.d (encV (catM (needV va y1) (needV vb y2) (needE vb y2)).1)) (catM (needV va y1) (needV vb y2) (needE vb y2)).2 := by
 refine ok95c.co (k := false) (mO_closed _ _ _) trivial ?_;have hb : ((0 : Int) != 0) = false := rfl;have c186 := walk186.call trivial;have hl : findM .i [(.int .i64 8, .fn (.func 257) [] []), (.int .i64 9, .fn (.func 258) [] []), (.int .i64 10, .fn (.func 259) [] []), (.int .i64 11, .fn (.func 260) [] [])] (.int .i64 17) = some none := rfl;rw [relM] at c186;have n1 := (walk187 p env va 0 y1 hp).to trivial;have n2 := (walk187 q env vb (needE va y1) y2 hq).to trivial;have c195 := (walk195 (needV va y1) (needV vb y2) env (needE vb y2)).to trivial;generalize catM (needV va y1) (needV vb y2) (needE vb y2) = R at *;generalize needV va y1 = wa at *;generalize needV vb y2 = wb at *;generalize needE vb y2 = x2 at *;generalize needE va y1 = x1 at *;rw [encE_eq];simp only [Exp.op, Exp.int, Exp.text, Exp.value, Exp.args, List.map_cons, List.map_nil];rw [encE_eq p] at n1 ⊢;rw [encE_eq q] at n2 ⊢;rw [encV_eq] at n1 n2;rw [encV_eq wa, encV_eq wb, encV_eq R.1] at c195;rw [encV_eq R.1];simp only [go_sem, ir95c, mC, hb, List.map_cons, List.map_nil, Int.reduceBEq, Nat.reduceAdd, Nat.reduceEqDiff, Nat.reduceBEq, Nat.reduceLeDiff, reduceCtorEq, ↓reduceIte];refine wpsL_call rfl c186 trivial ?_;refine zz6 ?_;refine ⟨rfl, ?_⟩;simp only [go_sem, b95_27, nthA, nthB, nthC, Int.reduceBEq, Nat.reduceAdd, Nat.reduceEqDiff, Nat.reduceBEq, Nat.reduceLeDiff, reduceCtorEq, ↓reduceIte];simp only [go_sem, b95_26, nthA, nthB, nthC, Int.reduceBEq, Nat.reduceAdd, Nat.reduceEqDiff, Nat.reduceBEq, Nat.reduceLeDiff, reduceCtorEq, ↓reduceIte];simp only [go_sem, b95_25, nthA, nthB, nthC, Int.reduceBEq, Nat.reduceAdd, Nat.reduceEqDiff, Nat.reduceBEq, Nat.reduceLeDiff, reduceCtorEq, ↓reduceIte];simp only [go_sem, b95_24, nthA, nthB, nthC, Int.reduceBEq, Nat.reduceAdd, Nat.reduceEqDiff, Nat.reduceBEq, Nat.reduceLeDiff, reduceCtorEq, ↓reduceIte];simp only [go_sem, b95_23, nthA, nthB, nthC, Int.reduceBEq, Nat.reduceAdd, Nat.reduceEqDiff, Nat.reduceBEq, Nat.reduceLeDiff, reduceCtorEq, ↓reduceIte];simp only [go_sem, b95_11, nthA, nthB, nthC, Int.reduceBEq, Nat.reduceAdd, Nat.reduceEqDiff, Nat.reduceBEq, Nat.reduceLeDiff, reduceCtorEq, ↓reduceIte];simp only [go_sem, b95_22, nthA, nthB, nthC, Int.reduceBEq, Nat.reduceAdd, Nat.reduceEqDiff, Nat.reduceBEq, Nat.reduceLeDiff, reduceCtorEq, ↓reduceIte];simp only [go_sem, b95_13, nthA, nthB, nthC, Int.reduceBEq, Nat.reduceAdd, Nat.reduceEqDiff, Nat.reduceBEq, Nat.reduceLeDiff, reduceCtorEq, ↓reduceIte];refine ⟨sP, wn n1 ?_⟩;refine zz4 ?_;refine ⟨sP, wn n2 ?_⟩;refine zz4 ?_;refine wn c195 ?_;refine zz4 ?_;exact zf
def elsB (v : Val) (y : Int) : Bool := (y != 0) || !nullV v
theorem ev_else_s (n : Int) (t : Str) (vs : List Val) (p q : Exp) (env va : Val) (y1 : Int) (hp : MCon 95 [encE p] env 0 (.d (encV va)) y1) (hc : elsB va y1 = true) :
  MCon 95 [encE (.mk 23 n t vs [p, q])] env 0 (.d (encV va)) y1 := by
 refine ok95c.co (k := false) (mO_closed _ _ _) trivial ?_;have hb : ((0 : Int) != 0) = false := rfl;have c186 := walk186.call trivial;have hl : findM .i [(.int .i64 8, .fn (.func 257) [] []), (.int .i64 9, .fn (.func 258) [] []), (.int .i64 10, .fn (.func 259) [] []), (.int .i64 11, .fn (.func 260) [] [])] (.int .i64 23) = some none := rfl;rw [relM] at c186;have n1 := hp.to trivial;have c88 := (walk88 va).call trivial;rw [encE_eq];simp only [Exp.op, Exp.int, Exp.text, Exp.value, Exp.args, List.map_cons, List.map_nil];rw [encE_eq p] at n1 ⊢;rw [encE_eq q];rw [encV_eq va] at n1 c88;rw [encV_eq va];simp only [go_sem, ir95c, mC, hb, List.map_cons, List.map_nil, Int.reduceBEq, Nat.reduceAdd, Nat.reduceEqDiff, Nat.reduceBEq, Nat.reduceLeDiff, reduceCtorEq, ↓reduceIte];refine wpsL_call rfl c186 trivial ?_;refine zz6 ?_;refine ⟨rfl, ?_⟩;simp only [go_sem, b95_27, nthA, nthB, nthC, Int.reduceBEq, Nat.reduceAdd, Nat.reduceEqDiff, Nat.reduceBEq, Nat.reduceLeDiff, reduceCtorEq, ↓reduceIte];simp only [go_sem, b95_26, nthA, nthB, nthC, Int.reduceBEq, Nat.reduceAdd, Nat.reduceEqDiff, Nat.reduceBEq, Nat.reduceLeDiff, reduceCtorEq, ↓reduceIte];simp only [go_sem, b95_25, nthA, nthB, nthC, Int.reduceBEq, Nat.reduceAdd, Nat.reduceEqDiff, Nat.reduceBEq, Nat.reduceLeDiff, reduceCtorEq, ↓reduceIte];simp only [go_sem, b95_24, nthA, nthB, nthC, Int.reduceBEq, Nat.reduceAdd, Nat.reduceEqDiff, Nat.reduceBEq, Nat.reduceLeDiff, reduceCtorEq, ↓reduceIte];simp only [go_sem, b95_23, nthA, nthB, nthC, Int.reduceBEq, Nat.reduceAdd, Nat.reduceEqDiff, Nat.reduceBEq, Nat.reduceLeDiff, reduceCtorEq, ↓reduceIte];simp only [go_sem, b95_11, nthA, nthB, nthC, Int.reduceBEq, Nat.reduceAdd, Nat.reduceEqDiff, Nat.reduceBEq, Nat.reduceLeDiff, reduceCtorEq, ↓reduceIte];simp only [go_sem, b95_22, nthA, nthB, nthC, Int.reduceBEq, Nat.reduceAdd, Nat.reduceEqDiff, Nat.reduceBEq, Nat.reduceLeDiff, reduceCtorEq, ↓reduceIte];simp only [go_sem, b95_21, nthA, nthB, nthC, Int.reduceBEq, Nat.reduceAdd, Nat.reduceEqDiff, Nat.reduceBEq, Nat.reduceLeDiff, reduceCtorEq, ↓reduceIte];simp only [go_sem, b95_20, nthA, nthB, nthC, Int.reduceBEq, Nat.reduceAdd, Nat.reduceEqDiff, Nat.reduceBEq, Nat.reduceLeDiff, reduceCtorEq, ↓reduceIte];simp only [go_sem, b95_16, nthA, nthB, nthC, Int.reduceBEq, Nat.reduceAdd, Nat.reduceEqDiff, Nat.reduceBEq, Nat.reduceLeDiff, reduceCtorEq, ↓reduceIte];refine ⟨sP, wn n1 ?_⟩;refine zz4 ?_;refine sq (!nullV va) ?_ ?_
 ·refine zz4 ?_;refine wn c88 ?_;exact zz4 trivial
 have hh : elsB va y1 = ((y1 != 0) || !nullV va) := rfl;refine zz4 ?_;rw [← hh, hc];simp only [go_sem, b95_15, Nat.reduceAdd, Nat.reduceEqDiff, Nat.reduceBEq, Nat.reduceLeDiff, reduceCtorEq, ↓reduceIte]
theorem ev_else_g (n : Int) (t : Str) (vs : List Val) (p q : Exp) (env va vb : Val) (y1 y2 : Int) (hp : MCon 95 [encE p] env 0 (.d (encV va)) y1) (hq : MCon 95 [encE q] env y1 (.d (encV vb)) y2) (hc : elsB va y1 = false) :
  MCon 95 [encE (.mk 23 n t vs [p, q])] env 0 (.d (encV vb)) y2 := by
 refine ok95c.co (k := false) (mO_closed _ _ _) trivial ?_;have hb : ((0 : Int) != 0) = false := rfl;have c186 := walk186.call trivial;have hl : findM .i [(.int .i64 8, .fn (.func 257) [] []), (.int .i64 9, .fn (.func 258) [] []), (.int .i64 10, .fn (.func 259) [] []), (.int .i64 11, .fn (.func 260) [] [])] (.int .i64 23) = some none := rfl;rw [relM] at c186;have n1 := hp.to trivial;have n2 := hq.to trivial;have c88 := (walk88 va).call trivial;rw [encE_eq];simp only [Exp.op, Exp.int, Exp.text, Exp.value, Exp.args, List.map_cons, List.map_nil];rw [encE_eq p] at n1 ⊢;rw [encE_eq q] at n2 ⊢;rw [encV_eq va] at n1 c88;rw [encV_eq vb] at n2 ⊢;simp only [go_sem, ir95c, mC, hb, List.map_cons, List.map_nil, Int.reduceBEq, Nat.reduceAdd, Nat.reduceEqDiff, Nat.reduceBEq, Nat.reduceLeDiff, reduceCtorEq, ↓reduceIte];refine wpsL_call rfl c186 trivial ?_;refine zz6 ?_;refine ⟨rfl, ?_⟩;simp only [go_sem, b95_27, nthA, nthB, nthC, Int.reduceBEq, Nat.reduceAdd, Nat.reduceEqDiff, Nat.reduceBEq, Nat.reduceLeDiff, reduceCtorEq, ↓reduceIte];simp only [go_sem, b95_26, nthA, nthB, nthC, Int.reduceBEq, Nat.reduceAdd, Nat.reduceEqDiff, Nat.reduceBEq, Nat.reduceLeDiff, reduceCtorEq, ↓reduceIte];simp only [go_sem, b95_25, nthA, nthB, nthC, Int.reduceBEq, Nat.reduceAdd, Nat.reduceEqDiff, Nat.reduceBEq, Nat.reduceLeDiff, reduceCtorEq, ↓reduceIte];simp only [go_sem, b95_24, nthA, nthB, nthC, Int.reduceBEq, Nat.reduceAdd, Nat.reduceEqDiff, Nat.reduceBEq, Nat.reduceLeDiff, reduceCtorEq, ↓reduceIte];simp only [go_sem, b95_23, nthA, nthB, nthC, Int.reduceBEq, Nat.reduceAdd, Nat.reduceEqDiff, Nat.reduceBEq, Nat.reduceLeDiff, reduceCtorEq, ↓reduceIte];simp only [go_sem, b95_11, nthA, nthB, nthC, Int.reduceBEq, Nat.reduceAdd, Nat.reduceEqDiff, Nat.reduceBEq, Nat.reduceLeDiff, reduceCtorEq, ↓reduceIte];simp only [go_sem, b95_22, nthA, nthB, nthC, Int.reduceBEq, Nat.reduceAdd, Nat.reduceEqDiff, Nat.reduceBEq, Nat.reduceLeDiff, reduceCtorEq, ↓reduceIte];simp only [go_sem, b95_21, nthA, nthB, nthC, Int.reduceBEq, Nat.reduceAdd, Nat.reduceEqDiff, Nat.reduceBEq, Nat.reduceLeDiff, reduceCtorEq, ↓reduceIte];simp only [go_sem, b95_20, nthA, nthB, nthC, Int.reduceBEq, Nat.reduceAdd, Nat.reduceEqDiff, Nat.reduceBEq, Nat.reduceLeDiff, reduceCtorEq, ↓reduceIte];simp only [go_sem, b95_16, nthA, nthB, nthC, Int.reduceBEq, Nat.reduceAdd, Nat.reduceEqDiff, Nat.reduceBEq, Nat.reduceLeDiff, reduceCtorEq, ↓reduceIte];refine ⟨sP, wn n1 ?_⟩;refine zz4 ?_;refine sq (!nullV va) ?_ ?_
 ·refine zz4 ?_;refine wn c88 ?_;exact zz4 trivial
 have hh : elsB va y1 = ((y1 != 0) || !nullV va) := rfl;refine zz4 ?_;rw [← hh, hc];refine zz4 ?_;refine ⟨sP, wn n2 ?_⟩;refine zz4 ?_;exact zf
theorem ev_if_t (n : Int) (t : Str) (vs : List Val) (p q r : Exp) (env va vb : Val) (y1 y2 : Int) (hp : MCon 95 [encE p] env 0 (.d (encV va)) y1) (hq : MCon 95 [encE q] env (truE va y1) (.d (encV vb)) y2) (hc : truB va y1 = true) :
  MCon 95 [encE (.mk 24 n t vs [p, q, r])] env 0 (.d (encV vb)) y2 := by
 refine ok95c.co (k := false) (mO_closed _ _ _) trivial ?_;have hb : ((0 : Int) != 0) = false := rfl;have c186 := walk186.call trivial;have hl : findM .i [(.int .i64 8, .fn (.func 257) [] []), (.int .i64 9, .fn (.func 258) [] []), (.int .i64 10, .fn (.func 259) [] []), (.int .i64 11, .fn (.func 260) [] [])] (.int .i64 24) = some none := rfl;rw [relM] at c186;have n1 := (walk192 p env va 0 y1 hp).to trivial;rw [hc] at n1;have n2 := hq.to trivial;generalize truE va y1 = x1 at *;rw [encE_eq];simp only [Exp.op, Exp.int, Exp.text, Exp.value, Exp.args, List.map_cons, List.map_nil];rw [encE_eq p] at n1;rw [encE_eq q] at n2;rw [encE_eq p, encE_eq q, encE_eq r];rw [encV_eq vb] at n2 ⊢;simp only [go_sem, ir95c, mC, hb, List.map_cons, List.map_nil, Int.reduceBEq, Nat.reduceAdd, Nat.reduceEqDiff, Nat.reduceBEq, Nat.reduceLeDiff, reduceCtorEq, ↓reduceIte];refine wpsL_call rfl c186 trivial ?_;refine zz6 ?_;refine ⟨rfl, ?_⟩;simp only [go_sem, b95_27, nthA, nthB, nthC, Int.reduceBEq, Nat.reduceAdd, Nat.reduceEqDiff, Nat.reduceBEq, Nat.reduceLeDiff, reduceCtorEq, ↓reduceIte];simp only [go_sem, b95_26, nthA, nthB, nthC, Int.reduceBEq, Nat.reduceAdd, Nat.reduceEqDiff, Nat.reduceBEq, Nat.reduceLeDiff, reduceCtorEq, ↓reduceIte];simp only [go_sem, b95_25, nthA, nthB, nthC, Int.reduceBEq, Nat.reduceAdd, Nat.reduceEqDiff, Nat.reduceBEq, Nat.reduceLeDiff, reduceCtorEq, ↓reduceIte];simp only [go_sem, b95_24, nthA, nthB, nthC, Int.reduceBEq, Nat.reduceAdd, Nat.reduceEqDiff, Nat.reduceBEq, Nat.reduceLeDiff, reduceCtorEq, ↓reduceIte];simp only [go_sem, b95_23, nthA, nthB, nthC, Int.reduceBEq, Nat.reduceAdd, Nat.reduceEqDiff, Nat.reduceBEq, Nat.reduceLeDiff, reduceCtorEq, ↓reduceIte];simp only [go_sem, b95_11, nthA, nthB, nthC, Int.reduceBEq, Nat.reduceAdd, Nat.reduceEqDiff, Nat.reduceBEq, Nat.reduceLeDiff, reduceCtorEq, ↓reduceIte];simp only [go_sem, b95_22, nthA, nthB, nthC, Int.reduceBEq, Nat.reduceAdd, Nat.reduceEqDiff, Nat.reduceBEq, Nat.reduceLeDiff, reduceCtorEq, ↓reduceIte];simp only [go_sem, b95_21, nthA, nthB, nthC, Int.reduceBEq, Nat.reduceAdd, Nat.reduceEqDiff, Nat.reduceBEq, Nat.reduceLeDiff, reduceCtorEq, ↓reduceIte];simp only [go_sem, b95_20, nthA, nthB, nthC, Int.reduceBEq, Nat.reduceAdd, Nat.reduceEqDiff, Nat.reduceBEq, Nat.reduceLeDiff, reduceCtorEq, ↓reduceIte];simp only [go_sem, b95_19, nthA, nthB, nthC, Int.reduceBEq, Nat.reduceAdd, Nat.reduceEqDiff, Nat.reduceBEq, Nat.reduceLeDiff, reduceCtorEq, ↓reduceIte];simp only [go_sem, b95_18, nthA, nthB, nthC, Int.reduceBEq, Nat.reduceAdd, Nat.reduceEqDiff, Nat.reduceBEq, Nat.reduceLeDiff, reduceCtorEq, ↓reduceIte];refine ⟨sP, wn n1 ?_⟩;simp only [go_sem, b95_17, mC, nthA, nthB, nthC, List.map_cons, List.map_nil, Int.reduceBEq, Nat.reduceAdd, Nat.reduceEqDiff, Nat.reduceBEq, Nat.reduceLeDiff, reduceCtorEq, ↓reduceIte];refine ⟨sP, wn n2 ?_⟩;refine zz4 ?_;exact zf
theorem ev_if_f (n : Int) (t : Str) (vs : List Val) (p q r : Exp) (env va vb : Val) (y1 y2 : Int) (hp : MCon 95 [encE p] env 0 (.d (encV va)) y1) (hq : MCon 95 [encE r] env (truE va y1) (.d (encV vb)) y2) (hc : truB va y1 = false) :
  MCon 95 [encE (.mk 24 n t vs [p, q, r])] env 0 (.d (encV vb)) y2 := by
 refine ok95c.co (k := false) (mO_closed _ _ _) trivial ?_;have hb : ((0 : Int) != 0) = false := rfl;have c186 := walk186.call trivial;have hl : findM .i [(.int .i64 8, .fn (.func 257) [] []), (.int .i64 9, .fn (.func 258) [] []), (.int .i64 10, .fn (.func 259) [] []), (.int .i64 11, .fn (.func 260) [] [])] (.int .i64 24) = some none := rfl;rw [relM] at c186;have n1 := (walk192 p env va 0 y1 hp).to trivial;rw [hc] at n1;have n2 := hq.to trivial;generalize truE va y1 = x1 at *;rw [encE_eq];simp only [Exp.op, Exp.int, Exp.text, Exp.value, Exp.args, List.map_cons, List.map_nil];rw [encE_eq p] at n1;rw [encE_eq r] at n2;rw [encE_eq p, encE_eq q, encE_eq r];rw [encV_eq vb] at n2 ⊢;simp only [go_sem, ir95c, mC, hb, List.map_cons, List.map_nil, Int.reduceBEq, Nat.reduceAdd, Nat.reduceEqDiff, Nat.reduceBEq, Nat.reduceLeDiff, reduceCtorEq, ↓reduceIte];refine wpsL_call rfl c186 trivial ?_;refine zz6 ?_;refine ⟨rfl, ?_⟩;simp only [go_sem, b95_27, nthA, nthB, nthC, Int.reduceBEq, Nat.reduceAdd, Nat.reduceEqDiff, Nat.reduceBEq, Nat.reduceLeDiff, reduceCtorEq, ↓reduceIte];simp only [go_sem, b95_26, nthA, nthB, nthC, Int.reduceBEq, Nat.reduceAdd, Nat.reduceEqDiff, Nat.reduceBEq, Nat.reduceLeDiff, reduceCtorEq, ↓reduceIte];simp only [go_sem, b95_25, nthA, nthB, nthC, Int.reduceBEq, Nat.reduceAdd, Nat.reduceEqDiff, Nat.reduceBEq, Nat.reduceLeDiff, reduceCtorEq, ↓reduceIte];simp only [go_sem, b95_24, nthA, nthB, nthC, Int.reduceBEq, Nat.reduceAdd, Nat.reduceEqDiff, Nat.reduceBEq, Nat.reduceLeDiff, reduceCtorEq, ↓reduceIte];simp only [go_sem, b95_23, nthA, nthB, nthC, Int.reduceBEq, Nat.reduceAdd, Nat.reduceEqDiff, Nat.reduceBEq, Nat.reduceLeDiff, reduceCtorEq, ↓reduceIte];simp only [go_sem, b95_11, nthA, nthB, nthC, Int.reduceBEq, Nat.reduceAdd, Nat.reduceEqDiff, Nat.reduceBEq, Nat.reduceLeDiff, reduceCtorEq, ↓reduceIte];simp only [go_sem, b95_22, nthA, nthB, nthC, Int.reduceBEq, Nat.reduceAdd, Nat.reduceEqDiff, Nat.reduceBEq, Nat.reduceLeDiff, reduceCtorEq, ↓reduceIte];simp only [go_sem, b95_21, nthA, nthB, nthC, Int.reduceBEq, Nat.reduceAdd, Nat.reduceEqDiff, Nat.reduceBEq, Nat.reduceLeDiff, reduceCtorEq, ↓reduceIte];simp only [go_sem, b95_20, nthA, nthB, nthC, Int.reduceBEq, Nat.reduceAdd, Nat.reduceEqDiff, Nat.reduceBEq, Nat.reduceLeDiff, reduceCtorEq, ↓reduceIte];simp only [go_sem, b95_19, nthA, nthB, nthC, Int.reduceBEq, Nat.reduceAdd, Nat.reduceEqDiff, Nat.reduceBEq, Nat.reduceLeDiff, reduceCtorEq, ↓reduceIte];simp only [go_sem, b95_18, nthA, nthB, nthC, Int.reduceBEq, Nat.reduceAdd, Nat.reduceEqDiff, Nat.reduceBEq, Nat.reduceLeDiff, reduceCtorEq, ↓reduceIte];refine ⟨sP, wn n1 ?_⟩;simp only [go_sem, b95_17, mC, nthA, nthB, nthC, List.map_cons, List.map_nil, Int.reduceBEq, Nat.reduceAdd, Nat.reduceEqDiff, Nat.reduceBEq, Nat.reduceLeDiff, reduceCtorEq, ↓reduceIte];refine ⟨sP, wn n2 ?_⟩;refine zz4 ?_;exact zf
theorem ev_sum (n : Int) (t : Str) (vs : List Val) (es : List Exp) (env : Val) (ht : t.length ≤ 68719476736) (hsz : szV env ≤ 1000000) (c77 : CT 77 [.d (.list 3 ((parseS t).1.map encP))] [] (.d (.bool (evP (parseS t).1))) []) :
  MCon 95 [encE (.mk 26 n t vs es)] env 0 (.d (encV (sumM (.mk 26 n t vs es) env 0).1)) (sumM (.mk 26 n t vs es) env 0).2 := by
 refine ok95c.co (k := false) (mO_closed _ _ _) trivial ?_;have hb : ((0 : Int) != 0) = false := rfl;have c186 := walk186.call trivial;have hl : findM .i [(.int .i64 8, .fn (.func 257) [] []), (.int .i64 9, .fn (.func 258) [] []), (.int .i64 10, .fn (.func 259) [] []), (.int .i64 11, .fn (.func 260) [] [])] (.int .i64 26) = some none := rfl;rw [relM] at c186;have c191 := (walk191 (.mk 26 n t vs es) env 0 ht hsz c77).to trivial;generalize sumM (.mk 26 n t vs es) env 0 = R at *;rw [encE_eq] at c191 ⊢;simp only [Exp.op, Exp.int, Exp.text, Exp.value, Exp.args, List.map_cons, List.map_nil] at c191 ⊢;rw [encV_eq R.1] at c191 ⊢;simp only [go_sem, ir95c, mC, hb, List.map_cons, List.map_nil, Int.reduceBEq, simprocAttr];refine wpsL_call rfl c186 trivial ?_;refine zz6 ?_;refine ⟨rfl, ?_⟩;simp only [go_sem, b95_27, nthA, nthB, nthC, Int.reduceBEq, simprocAttr];simp only [go_sem, b95_26, nthA, nthB, nthC, Int.reduceBEq, simprocAttr];simp only [go_sem, b95_5, nthA, nthB, nthC, Int.reduceBEq, simprocAttr];refine wn c191 ?_;refine zz4 ?_;exact zf
noncomputable def pathM (t : Str) (env : Val) (x : Int) : Val × Int :=
 if ((getV env (parseS t).1).2 != 0) && ((getV env (parseS t).1).2 != 19) then (zeroV, failE x (getV env (parseS t).1).2) else ((getV env (parseS t).1).1, x)
theorem ev_path (n : Int) (t : Str) (vs : List Val) (es : List Exp) (env : Val) (ht : t.length ≤ 68719476736) (hsz : szV env ≤ 1000000) (c77 : CallOK Tryz.prog 77 [.d (.list 3 ((parseS t).1.map encP))] [] (.d (.bool (evP (parseS t).1))) []) :
    MCon 95 [encE (.mk 2 n t vs es)] env 0 (.d (encV (pathM t env 0).1)) (pathM t env 0).2 := by
  refine ok95c.con (k := false) (Nat.le_of_ble_eq_true rfl) (mO_closed _ _ _) trivial ?_
  have hb : ((0 : Int) != 0) = false := rfl
  have c186 := walk186.call trivial
  have hl : findM .i [(.int .i64 8, .fn (.func 257) [] []), (.int .i64 9, .fn (.func 258) [] []), (.int .i64 10, .fn (.func 259) [] []), (.int .i64 11, .fn (.func 260) [] [])] (.int .i64 2) = some none := rfl
  rw [relM] at c186
  have hpl := parseS_ln t
  have hpv := parseS_val t
  have c26 := (walk26 t ht).call (by simp [pureR])
  have c28 := (walk28 env (parseS t).1 (by omega) (fun p hp => by have := (validP_bd (hpv p hp)).1; omega) (by omega) c77).call (by simp [pureR])
  have cf := fun y => (walk190 env 0 y).to trivial
  generalize hT : pathM t env 0 = T
  unfold pathM at hT
  generalize parseS t = PS at *
  generalize getV env PS.1 = G at *
  have c188 := (walk188 (G.2 == 0)).call trivial
  rw [encE_eq]
  simp only [Exp.op, Exp.int, Exp.text, Exp.value, Exp.args, List.map_cons, List.map_nil]
  rw [encV_eq env, encV_eq G.1] at c28
  rw [encV_eq] at c188
  rw [encV_eq T.1]
  simp only [go_sem, ir95c, mC, hb, List.map_cons, List.map_nil, Int.reduceBEq, Nat.reduceAdd, Nat.reduceEqDiff, Nat.reduceBEq, Nat.reduceLeDiff, reduceCtorEq, ↓reduceIte]
  refine wpsL_call rfl c186 trivial ?_
  simp only [go_sem, hl, Int.reduceBEq, Nat.reduceAdd, Nat.reduceEqDiff, Nat.reduceBEq, Nat.reduceLeDiff, reduceCtorEq, ↓reduceIte]
  refine ⟨rfl, ?_⟩
  simp only [go_sem, b95_27, nthA, nthB, nthC, Int.reduceBEq, Nat.reduceAdd, Nat.reduceEqDiff, Nat.reduceBEq, Nat.reduceLeDiff, reduceCtorEq, ↓reduceIte]
  simp only [go_sem, b95_4, nthA, nthB, nthC, Int.reduceBEq, Nat.reduceAdd, Nat.reduceEqDiff, Nat.reduceBEq, Nat.reduceLeDiff, reduceCtorEq, ↓reduceIte]
  refine wps_call rfl c26 trivial ?_
  simp only [go_sem, mC, nthA, nthB, nthC, List.map_cons, List.map_nil, Int.reduceBEq, Nat.reduceAdd, Nat.reduceEqDiff, Nat.reduceBEq, Nat.reduceLeDiff, reduceCtorEq, ↓reduceIte]
  refine wps_call rfl c28 trivial ?_
  simp only [go_sem, mC, nthA, nthB, nthC, List.map_cons, List.map_nil, Int.reduceBEq, Nat.reduceAdd, Nat.reduceEqDiff, Nat.reduceBEq, Nat.reduceLeDiff, reduceCtorEq, ↓reduceIte]
  refine scQ_pure (G.2 != 19) (fun _ => ?_) ?_
  · simp only [go_sem, mC, nthA, nthB, nthC, List.map_cons, List.map_nil, Int.reduceBEq, Nat.reduceAdd, Nat.reduceEqDiff, Nat.reduceBEq, Nat.reduceLeDiff, reduceCtorEq, ↓reduceIte]
  simp only [go_sem, mC, nthA, nthB, nthC, List.map_cons, List.map_nil, Int.reduceBEq, Nat.reduceAdd, Nat.reduceEqDiff, Nat.reduceBEq, Nat.reduceLeDiff, reduceCtorEq, ↓reduceIte]
  refine ⟨fun h0 => ?_, fun h0 => ?_⟩
  · rw [if_pos h0] at hT
    rw [← hT]
    simp only [go_sem, b95_2, Nat.reduceAdd, Nat.reduceEqDiff, Nat.reduceBEq, Nat.reduceLeDiff, reduceCtorEq, ↓reduceIte]
    refine wps_call rfl (cf G.2) ⟨rfl, trivial⟩ ?_
    generalize zeroV = z at *
    rw [encV_eq]
    simp only [go_sem, mC, nthA, nthB, nthC, List.map_cons, List.map_nil, Int.reduceBEq, Nat.reduceAdd, Nat.reduceEqDiff, Nat.reduceBEq, Nat.reduceLeDiff, reduceCtorEq, ↓reduceIte]
    try exact ⟨rfl, rfl⟩
  rw [if_neg (by rw [h0]; exact Bool.false_ne_true)] at hT
  rw [← hT]
  try simp only [go_sem, mC, nthA, nthB, nthC, List.map_cons, List.map_nil, Int.reduceBEq, Nat.reduceAdd, Nat.reduceEqDiff, Nat.reduceBEq, Nat.reduceLeDiff, reduceCtorEq, ↓reduceIte]
  skip
  try exact ⟨rfl, rfl⟩
noncomputable def hasM (t : Str) (env : Val) (x : Int) : Val × Int :=
 if ((getV env (parseS t).1).2 != 0) && ((getV env (parseS t).1).2 != 19) then (zeroV, failE x (getV env (parseS t).1).2) else (boolV ((getV env (parseS t).1).2 == 0), x)
theorem ev_has (n : Int) (t : Str) (vs : List Val) (es : List Exp) (env : Val) (ht : t.length ≤ 68719476736) (hsz : szV env ≤ 1000000) (c77 : CT 77 [.d (.list 3 ((parseS t).1.map encP))] [] (.d (.bool (evP (parseS t).1))) []) :
  MCon 95 [encE (.mk 22 n t vs es)] env 0 (.d (encV (hasM t env 0).1)) (hasM t env 0).2 := by
 refine ok95c.co (k := false) (mO_closed _ _ _) trivial ?_;have hb : ((0 : Int) != 0) = false := rfl;have c186 := walk186.call trivial;have hl : findM .i [(.int .i64 8, .fn (.func 257) [] []), (.int .i64 9, .fn (.func 258) [] []), (.int .i64 10, .fn (.func 259) [] []), (.int .i64 11, .fn (.func 260) [] [])] (.int .i64 22) = some none := rfl;rw [relM] at c186;have hpl := parseS_ln t;have hpv := parseS_val t;have c26 := (walk26 t ht).call (by simp [pureR]);have c28 := (walk28 env (parseS t).1 oM (fun p hp => by have := (validP_bd (hpv p hp)).1; omega) oM c77).call (by simp [pureR]);have cf := fun y => (walk190 env 0 y).to trivial
 generalize hT : hasM t env 0 = T;unfold hasM at hT;generalize parseS t = PS at *;generalize getV env PS.1 = G at *;have c188 := (walk188 (G.2 == 0)).call trivial;rw [encE_eq];simp only [Exp.op, Exp.int, Exp.text, Exp.value, Exp.args, List.map_cons, List.map_nil];rw [encV_eq env, encV_eq G.1] at c28;rw [encV_eq] at c188;rw [encV_eq T.1];simp only [go_sem, ir95c, mC, hb, List.map_cons, List.map_nil, Int.reduceBEq, simprocAttr];refine wpsL_call rfl c186 trivial ?_;refine zz6 ?_;refine ⟨rfl, ?_⟩;simp only [go_sem, b95_27, nthA, nthB, nthC, Int.reduceBEq, simprocAttr];simp only [go_sem, b95_4, nthA, nthB, nthC, Int.reduceBEq, simprocAttr];refine wn c26 ?_;refine zz4 ?_;refine wn c28 ?_;refine zz4 ?_;refine sq (G.2 != 19) ?_ ?_
 ·exact zz4 trivial
 refine zz4 ?_;apply ik <;> intro h0
 ·rw [if_pos h0] at hT;rw [← hT];simp only [go_sem, b95_2, simprocAttr];refine wn (cf G.2) ?_;generalize zeroV = z at *;rw [encV_eq];refine zz4 ?_;exact zf
 rw [if_neg (nF h0)] at hT;rw [← hT]
 try refine zz4 ?_
 simp only [go_sem, b95_3, simprocAttr];refine wn c188 ?_;refine zz4 ?_;exact zf
def lstR (F : Exp → Int → Val × Int) : List Exp → Int → List Val × Int
 | [], x => ([], x)
 | p :: r, x => (needV (F p x).1 (F p x).2 :: (lstR F r (needE (F p x).1 (F p x).2)).1, (lstR F r (needE (F p x).1 (F p x).2)).2)
def fndR (a : Val) : List Val → Int → Bool × Int
 | [], x => (false, x)
 | v :: r, x => if (eqlM a v x).1 then (true, (eqlM a v x).2) else fndR a r (eqlM a v x).2
def inR (F : Exp → Int → Val × Int) (p : Exp) (qs : List Exp) : Bool × Int :=
 fndR (needV (F p 0).1 (F p 0).2) (lstR F qs (needE (F p 0).1 (F p 0).2)).1 (lstR F qs (needE (F p 0).1 (F p 0).2)).2
theorem lstR_ok {F : Exp → Int → Val × Int} (ho : ∀ p x, okV (needV (F p x).1 (F p x).2)) : ∀ (l : List Exp) (x : Int), (lstR F l x).1.length = l.length ∧ ∀ v ∈ (lstR F l x).1, okV v
 | [], x => ⟨rfl, by intro v hv; cases hv⟩
 | p :: r, x => by
  obtain ⟨h1, h2⟩ := lstR_ok ho r (needE (F p x).1 (F p x).2);refine ⟨by simp only [lstR, List.length_cons, h1], ?_⟩;intro v hv;simp only [lstR] at hv;rcases List.mem_cons.1 hv with rfl | hv
  ·exact ho p x
  ·exact h2 v hv
theorem ev_in (n : Int) (t : Str) (vs : List Val) (p : Exp) (qs : List Exp) (env : Val) (F : Exp → Int → Val × Int) (hF : ∀ e, e = p ∨ e ∈ qs → ∀ x, MCon 95 [encE e] env x (.d (encV (F e x).1)) (F e x).2)
  (ho : ∀ e x, okV (needV (F e x).1 (F e x).2)) (hq : qs.length ≤ 68719476736) :
  MCon 95 [encE (.mk 25 n t vs (p :: qs))] env 0 (.d (encV (boolV (inR F p qs).1))) (inR F p qs).2 := by
 refine ok95c.co (k := false) (mO_closed _ _ _) trivial ?_;have hb : ((0 : Int) != 0) = false := rfl;have c186 := walk186.call trivial;have hl : findM .i [(.int .i64 8, .fn (.func 257) [] []), (.int .i64 9, .fn (.func 258) [] []), (.int .i64 10, .fn (.func 259) [] []), (.int .i64 11, .fn (.func 260) [] [])] (.int .i64 25) = some none := rfl;rw [relM] at c186;have n1 := (walk187 p env (F p 0).1 0 (F p 0).2 (hF p (.inl rfl) 0)).to trivial;generalize hR : inR F p qs = R;unfold inR at hR;have ha := ho p 0;generalize needV (F p 0).1 (F p 0).2 = a at *;generalize needE (F p 0).1 (F p 0).2 = x1 at *;have hlr := lstR_ok ho qs x1;generalize hL : lstR F qs x1 = L at *;have c188 := (walk188 R.1).call trivial;generalize boolV R.1 = W at *;rw [encE_eq];simp only [Exp.op, Exp.int, Exp.text, Exp.value, Exp.args, List.map_cons, List.map_nil];rw [encE_eq p] at n1 ⊢;rw [encV_eq] at n1;rw [encV_eq W] at c188 ⊢;have t1 : Int.toNat 1 = 1 := rfl;simp only [go_sem, ir95c, mC, hb, List.map_cons, List.map_nil, Int.reduceBEq, Nat.reduceAdd, Nat.reduceEqDiff, Nat.reduceBEq, Nat.reduceLeDiff, reduceCtorEq, ↓reduceIte];refine wpsL_call rfl c186 trivial ?_;refine zz6 ?_;refine ⟨rfl, ?_⟩;simp only [go_sem, b95_27, nthA, nthB, Int.reduceBEq, Nat.reduceAdd, Nat.reduceEqDiff, Nat.reduceBEq, Nat.reduceLeDiff, reduceCtorEq, ↓reduceIte];simp only [go_sem, b95_26, nthA, nthB, Int.reduceBEq, Nat.reduceAdd, Nat.reduceEqDiff, Nat.reduceBEq, Nat.reduceLeDiff, reduceCtorEq, ↓reduceIte];simp only [go_sem, b95_25, nthA, nthB, Int.reduceBEq, Nat.reduceAdd, Nat.reduceEqDiff, Nat.reduceBEq, Nat.reduceLeDiff, reduceCtorEq, ↓reduceIte];simp only [go_sem, b95_24, nthA, nthB, Int.reduceBEq, Nat.reduceAdd, Nat.reduceEqDiff, Nat.reduceBEq, Nat.reduceLeDiff, reduceCtorEq, ↓reduceIte];simp only [go_sem, b95_10, nthA, nthB, Int.reduceBEq, Nat.reduceAdd, Nat.reduceEqDiff, Nat.reduceBEq, Nat.reduceLeDiff, reduceCtorEq, ↓reduceIte];refine ⟨sP, wn n1 ?_⟩;refine zz12 ?_;have e1 : (qs.map encE).take (((qs.length + 1 : Nat) : Int) - 1).toNat = qs.map encE := by
  apply List.take_of_length_le;rw [List.length_map]; omega
 simp only [go_sem, t1, e1, List.length_map, List.length_cons, Nat.reduceAdd, Nat.reduceEqDiff, Nat.reduceBEq, Nat.reduceLeDiff, reduceCtorEq, ↓reduceIte];refine ⟨⟨oM, oM, oM⟩, ?_⟩;refine wpc_loop (fun n s => ∃ (k : Nat) (acc : List Val) (x : Int), k ≤ qs.length ∧ n = qs.length - k ∧ acc.length = k ∧ L = (acc ++ (lstR F (qs.drop k) x).1, (lstR F (qs.drop k) x).2) ∧
  s = ⟨[(0, .ref 1000 0), (4, .ref 4 0), (15, .ref 15 0), (16, .d (.bool false)), (17, .ms 199 k), (188, .d (.list 5 (qs.map encE))), (189, .d (.int .i64 qs.length)), (190, .d (.int .i64 k))],
   [(1000, .box [.d (.int .i64 env.kind), .d (.int .i64 env.int), .d (.int .i64 env.scale), .d (.str env.text), .d (.list 6 (env.list.map encV)), .d (.list 7 (env.fields.map encF)), .d (.int .i64 x)]), (4, .box [.d (.int .i64 0), .d (.int .i64 0), .d (.int .i64 0), .d (.str []), .d (.nil 6), .d (.nil 7)]), (15, .box [.d (.int .i64 a.kind), .d (.int .i64 a.int), .d (.int .i64 a.scale), .d (.str a.text), .d (.list 6 (a.list.map encV)), .d (.list 7 (a.fields.map encF))]), (199, .row k 6 (acc.map encV))]⟩) ?_ ?_
 ·refine ⟨_, _, (Wk.nilT 17 199 6 rfl rfl dC).trans (Wk.less ?_), 0, [], x1, Nat.zero_le _, rfl, rfl, by rw [← hL]; rfl, rfl⟩;refine zz1 ?_
  first | exact rfl | exact ⟨rfl, rfl⟩ | skip
  try exact rfl
 ·rintro n s ⟨k, acc, x, hk, rfl, hacc, hinv, rfl⟩;by_cases hlt : k < qs.length
  ·have hx := nth_encE hlt;have hd := dT hlt;have n2 := (walk187 qs[k] env (F qs[k] x).1 x (F qs[k] x).2 (hF _ (.inr (List.getElem_mem hlt)) x)).to trivial;rw [List.drop_eq_getElem_cons hlt] at hinv;simp only [lstR] at hinv;generalize needV (F qs[k] x).1 (F qs[k] x).2 = w at *;generalize needE (F qs[k] x).1 (F qs[k] x).2 = y at *;rw [encE_eq qs[k], encV_eq w] at n2;refine zz8 ?_;refine ⟨oM, wn n2 ?_⟩;refine zz59 ?_;refine ⟨(by intro x hx; rcases List.mem_singleton.1 hx with rfl; rfl), oM, qs.length - (k + 1), _, oM, Wk.less ?_, k + 1, acc ++ [w], y, oM, rfl, by simp [hacc], by rw [hinv]; simp, rfl⟩;rw [List.map_append];simp only [go_sem, mC, wrap64s k oM, List.map_cons, List.map_nil, encV_eq w, Nat.reduceAdd, Nat.reduceEqDiff, Nat.reduceBEq, Nat.reduceLeDiff, reduceCtorEq, ↓reduceIte];exact rfl
  ·have hd := dF hlt;obtain rfl : k = qs.length := oM;rw [List.drop_length] at hinv;simp only [lstR, List.append_nil] at hinv;subst hinv;simp only at hR hlr;refine zz15 ?_;refine wpc_loop (fun n s => ∃ (j : Nat) (found : Bool) (z : Int), j ≤ acc.length ∧ n = acc.length - j ∧ R = (if found = true then (true, z) else fndR a (acc.drop j) z) ∧
    s = ⟨[(0, .ref 1000 0), (4, .ref 4 0), (15, .ref 15 0), (16, .d (.bool found)), (17, .ms 199 qs.length), (20, .d (.int .i64 j))],
     [(1000, .box [.d (.int .i64 env.kind), .d (.int .i64 env.int), .d (.int .i64 env.scale), .d (.str env.text), .d (.list 6 (env.list.map encV)), .d (.list 7 (env.fields.map encF)), .d (.int .i64 z)]), (4, .box [.d (.int .i64 0), .d (.int .i64 0), .d (.int .i64 0), .d (.str []), .d (.nil 6), .d (.nil 7)]), (15, .box [.d (.int .i64 a.kind), .d (.int .i64 a.int), .d (.int .i64 a.scale), .d (.str a.text), .d (.list 6 (a.list.map encV)), .d (.list 7 (a.fields.map encF))]), (199, .row qs.length 6 (acc.map encV))]⟩) ?_ ?_
   ·refine ⟨_, _, Wk.refl _, 0, false, x, Nat.zero_le _, rfl, by rw [← hR]; rfl, rfl⟩
   ·rintro n s ⟨j, found, z, hj, rfl, hRj, rfl⟩;by_cases hjl : j < acc.length
    ·have hd2 : decide ((j : Int) < (acc.length : Int)) = true := sO;have hx := nth_encV hjl;have c193 := (walk193 a acc[j] env z ha (hlr.2 _ (List.getElem_mem hjl))).to trivial;rw [encV_eq, encV_eq] at c193;refine zz98 ?_;apply ik <;> intro h
     ·simp only [Bool.not_eq_true'] at h;subst h;rw [if_neg Bool.false_ne_true, List.drop_eq_getElem_cons hjl, fndR] at hRj;simp only [Int.toNat_natCast, hx];refine ⟨oM, Nat.le_refl _, wn c193 ?_⟩;refine zz59 ?_;refine ⟨acc.length - (j + 1), _, oM, Wk.less ?_, j + 1, (eqlM a acc[j] z).1, (eqlM a acc[j] z).2, oM, rfl, hRj, rfl⟩;simp only [go_sem, mC, wrap64s j oM, List.map_cons, List.map_nil, Nat.reduceAdd, Nat.reduceEqDiff, Nat.reduceBEq, Nat.reduceLeDiff, reduceCtorEq, ↓reduceIte];exact rfl
     ·simp only [Bool.not_eq_false'] at h;have hRf : R = (found, z) := by rw [hRj, h]; rfl
      obtain rfl : R = (found, z) := hRf;refine wn c188 ?_;refine zz12 ?_
      first | exact rfl | exact ⟨rfl, rfl⟩ | skip
    ·have hd2 : decide ((j : Int) < (acc.length : Int)) = false := sO;obtain rfl : j = acc.length := oM;have hRf : R = (found, z) := by
      rw [hRj, List.drop_length, fndR];cases found <;> rfl
     refine zz98 ?_;obtain rfl : R = (found, z) := hRf;refine wn c188 ?_;refine zz12 ?_
     first | exact rfl | exact ⟨rfl, rfl⟩ | skip
theorem ev_slc (htx : Txt0) (n : Int) (t : Str) (vs : List Val) (p q r : Exp) (env va vb vc : Val) (y1 y2 y3 : Int) (hp : MCon 95 [encE p] env 0 (.d (encV va)) y1) (hq : MCon 95 [encE q] env (needE va y1) (.d (encV vb)) y2)
  (hr : MCon 95 [encE r] env (needE vb y2) (.d (encV vc)) y3) (hal : (needV va y1).text.length ≤ 17179869184) :
  MCon 95 [encE (.mk 21 n t vs [p, q, r])] env 0 (.d (encV (slcM (needV va y1) (needV vb y2) (needV vc y3) (needE vc y3)).1)) (slcM (needV va y1) (needV vb y2) (needV vc y3) (needE vc y3)).2 := by
 refine ok95c.co (k := false) (mO_closed _ _ _) trivial ?_;have hb : ((0 : Int) != 0) = false := rfl;have c186 := walk186.call trivial;have hl : findM .i [(.int .i64 8, .fn (.func 257) [] []), (.int .i64 9, .fn (.func 258) [] []), (.int .i64 10, .fn (.func 259) [] []), (.int .i64 11, .fn (.func 260) [] [])] (.int .i64 21) = some none := rfl;rw [relM] at c186;have n1 := (walk187 p env va 0 y1 hp).to trivial;have n2 := (walk187 q env vb (needE va y1) y2 hq).to trivial;have n3 := (walk187 r env vc (needE vb y2) y3 hr).to trivial;have c196 := (walk196 htx (needV va y1) (needV vb y2) (needV vc y3) env (needE vc y3) hal).to trivial;generalize slcM (needV va y1) (needV vb y2) (needV vc y3) (needE vc y3) = R at *;generalize needV va y1 = wa at *;generalize needV vb y2 = wb at *;generalize needV vc y3 = wc at *;generalize needE vc y3 = x3 at *;generalize needE vb y2 = x2 at *;generalize needE va y1 = x1 at *;rw [encE_eq];simp only [Exp.op, Exp.int, Exp.text, Exp.value, Exp.args, List.map_cons, List.map_nil];rw [encE_eq p] at n1 ⊢;rw [encE_eq q] at n2 ⊢;rw [encE_eq r] at n3 ⊢;rw [encV_eq] at n1 n2 n3;rw [encV_eq wa, encV_eq wb, encV_eq wc, encV_eq R.1] at c196;rw [encV_eq R.1];simp only [go_sem, ir95c, mC, hb, List.map_cons, List.map_nil, Int.reduceBEq, Nat.reduceAdd, Nat.reduceEqDiff, Nat.reduceBEq, Nat.reduceLeDiff, reduceCtorEq, ↓reduceIte];refine wpsL_call rfl c186 trivial ?_;refine zz6 ?_;refine ⟨rfl, ?_⟩;simp only [go_sem, b95_27, nthA, nthB, nthC, Int.reduceBEq, Nat.reduceAdd, Nat.reduceEqDiff, Nat.reduceBEq, Nat.reduceLeDiff, reduceCtorEq, ↓reduceIte];simp only [go_sem, b95_26, nthA, nthB, nthC, Int.reduceBEq, Nat.reduceAdd, Nat.reduceEqDiff, Nat.reduceBEq, Nat.reduceLeDiff, reduceCtorEq, ↓reduceIte];simp only [go_sem, b95_25, nthA, nthB, nthC, Int.reduceBEq, Nat.reduceAdd, Nat.reduceEqDiff, Nat.reduceBEq, Nat.reduceLeDiff, reduceCtorEq, ↓reduceIte];simp only [go_sem, b95_24, nthA, nthB, nthC, Int.reduceBEq, Nat.reduceAdd, Nat.reduceEqDiff, Nat.reduceBEq, Nat.reduceLeDiff, reduceCtorEq, ↓reduceIte];simp only [go_sem, b95_23, nthA, nthB, nthC, Int.reduceBEq, Nat.reduceAdd, Nat.reduceEqDiff, Nat.reduceBEq, Nat.reduceLeDiff, reduceCtorEq, ↓reduceIte];simp only [go_sem, b95_11, nthA, nthB, nthC, Int.reduceBEq, Nat.reduceAdd, Nat.reduceEqDiff, Nat.reduceBEq, Nat.reduceLeDiff, reduceCtorEq, ↓reduceIte];simp only [go_sem, b95_22, nthA, nthB, nthC, Int.reduceBEq, Nat.reduceAdd, Nat.reduceEqDiff, Nat.reduceBEq, Nat.reduceLeDiff, reduceCtorEq, ↓reduceIte];simp only [go_sem, b95_21, nthA, nthB, nthC, Int.reduceBEq, Nat.reduceAdd, Nat.reduceEqDiff, Nat.reduceBEq, Nat.reduceLeDiff, reduceCtorEq, ↓reduceIte];simp only [go_sem, b95_14, nthA, nthB, nthC, Int.reduceBEq, Nat.reduceAdd, Nat.reduceEqDiff, Nat.reduceBEq, Nat.reduceLeDiff, reduceCtorEq, ↓reduceIte];refine ⟨sP, wn n1 ?_⟩;refine zz4 ?_;refine ⟨sP, wn n2 ?_⟩;refine zz4 ?_;refine ⟨sP, wn n3 ?_⟩;refine zz4 ?_;refine wn c196 ?_;refine zz4 ?_;exact zf
theorem ev_u16 (n : Int) (t : Str) (vs : List Val) (p : Exp) (env va w : Val) (y1 y : Int) (hp : MCon 95 [encE p] env 0 (.d (encV va)) y1) (hu : MCon 197 [.int .i64 16, encV (needV va y1)] env (needE va y1) (.d (encV w)) y) :
  MCon 95 [encE (.mk 16 n t vs [p])] env 0 (.d (encV w)) y := by
 refine ok95c.co (k := false) (mO_closed _ _ _) trivial ?_;have hb : ((0 : Int) != 0) = false := rfl;have c186 := walk186.call trivial;have hl : findM .i [(.int .i64 8, .fn (.func 257) [] []), (.int .i64 9, .fn (.func 258) [] []), (.int .i64 10, .fn (.func 259) [] []), (.int .i64 11, .fn (.func 260) [] [])] (.int .i64 16) = some none := rfl;rw [relM] at c186;have n1 := (walk187 p env va 0 y1 hp).to trivial;have c197 := hu.to trivial;generalize needV va y1 = wa at *;generalize needE va y1 = x1 at *;rw [encE_eq];simp only [Exp.op, Exp.int, Exp.text, Exp.value, Exp.args, List.map_cons, List.map_nil];rw [encE_eq p] at n1 ⊢;rw [encV_eq] at n1;rw [encV_eq wa, encV_eq w] at c197;rw [encV_eq w];simp only [go_sem, ir95c, mC, hb, List.map_cons, List.map_nil, Int.reduceBEq, Nat.reduceAdd, Nat.reduceEqDiff, Nat.reduceBEq, Nat.reduceLeDiff, reduceCtorEq, ↓reduceIte];refine wpsL_call rfl c186 trivial ?_;refine zz6 ?_;refine ⟨rfl, ?_⟩;simp only [go_sem, b95_27, nthA, nthB, nthC, Int.reduceBEq, Nat.reduceAdd, Nat.reduceEqDiff, Nat.reduceBEq, Nat.reduceLeDiff, reduceCtorEq, ↓reduceIte];simp only [go_sem, b95_26, nthA, nthB, nthC, Int.reduceBEq, Nat.reduceAdd, Nat.reduceEqDiff, Nat.reduceBEq, Nat.reduceLeDiff, reduceCtorEq, ↓reduceIte];simp only [go_sem, b95_25, nthA, nthB, nthC, Int.reduceBEq, Nat.reduceAdd, Nat.reduceEqDiff, Nat.reduceBEq, Nat.reduceLeDiff, reduceCtorEq, ↓reduceIte];simp only [go_sem, b95_24, nthA, nthB, nthC, Int.reduceBEq, Nat.reduceAdd, Nat.reduceEqDiff, Nat.reduceBEq, Nat.reduceLeDiff, reduceCtorEq, ↓reduceIte];simp only [go_sem, b95_23, nthA, nthB, nthC, Int.reduceBEq, Nat.reduceAdd, Nat.reduceEqDiff, Nat.reduceBEq, Nat.reduceLeDiff, reduceCtorEq, ↓reduceIte];simp only [go_sem, b95_11, nthA, nthB, nthC, Int.reduceBEq, Nat.reduceAdd, Nat.reduceEqDiff, Nat.reduceBEq, Nat.reduceLeDiff, reduceCtorEq, ↓reduceIte];simp only [go_sem, b95_22, nthA, nthB, nthC, Int.reduceBEq, Nat.reduceAdd, Nat.reduceEqDiff, Nat.reduceBEq, Nat.reduceLeDiff, reduceCtorEq, ↓reduceIte];simp only [go_sem, b95_21, nthA, nthB, nthC, Int.reduceBEq, Nat.reduceAdd, Nat.reduceEqDiff, Nat.reduceBEq, Nat.reduceLeDiff, reduceCtorEq, ↓reduceIte];simp only [go_sem, b95_20, nthA, nthB, nthC, Int.reduceBEq, Nat.reduceAdd, Nat.reduceEqDiff, Nat.reduceBEq, Nat.reduceLeDiff, reduceCtorEq, ↓reduceIte];simp only [go_sem, b95_19, nthA, nthB, nthC, Int.reduceBEq, Nat.reduceAdd, Nat.reduceEqDiff, Nat.reduceBEq, Nat.reduceLeDiff, reduceCtorEq, ↓reduceIte];refine ⟨by simp, wpsL_call rfl n1 ⟨rfl, trivial⟩ ?_⟩;refine zz4 ?_;refine wpsL_call rfl c197 ⟨rfl, trivial⟩ ?_;refine zz4 ?_
 first | exact rfl | exact ⟨rfl, rfl⟩ | exact ⟨rfl, rfl, rfl⟩
theorem ev_u18 (n : Int) (t : Str) (vs : List Val) (p : Exp) (env va w : Val) (y1 y : Int) (hp : MCon 95 [encE p] env 0 (.d (encV va)) y1) (hu : MCon 197 [.int .i64 18, encV (needV va y1)] env (needE va y1) (.d (encV w)) y) :
  MCon 95 [encE (.mk 18 n t vs [p])] env 0 (.d (encV w)) y := by
 refine ok95c.co (k := false) (mO_closed _ _ _) trivial ?_;have hb : ((0 : Int) != 0) = false := rfl;have c186 := walk186.call trivial;have hl : findM .i [(.int .i64 8, .fn (.func 257) [] []), (.int .i64 9, .fn (.func 258) [] []), (.int .i64 10, .fn (.func 259) [] []), (.int .i64 11, .fn (.func 260) [] [])] (.int .i64 18) = some none := rfl;rw [relM] at c186;have n1 := (walk187 p env va 0 y1 hp).to trivial;have c197 := hu.to trivial;generalize needV va y1 = wa at *;generalize needE va y1 = x1 at *;rw [encE_eq];simp only [Exp.op, Exp.int, Exp.text, Exp.value, Exp.args, List.map_cons, List.map_nil];rw [encE_eq p] at n1 ⊢;rw [encV_eq] at n1;rw [encV_eq wa, encV_eq w] at c197;rw [encV_eq w];simp only [go_sem, ir95c, mC, hb, List.map_cons, List.map_nil, Int.reduceBEq, Nat.reduceAdd, Nat.reduceEqDiff, Nat.reduceBEq, Nat.reduceLeDiff, reduceCtorEq, ↓reduceIte];refine wpsL_call rfl c186 trivial ?_;refine zz6 ?_;refine ⟨rfl, ?_⟩;simp only [go_sem, b95_27, nthA, nthB, nthC, Int.reduceBEq, Nat.reduceAdd, Nat.reduceEqDiff, Nat.reduceBEq, Nat.reduceLeDiff, reduceCtorEq, ↓reduceIte];simp only [go_sem, b95_26, nthA, nthB, nthC, Int.reduceBEq, Nat.reduceAdd, Nat.reduceEqDiff, Nat.reduceBEq, Nat.reduceLeDiff, reduceCtorEq, ↓reduceIte];simp only [go_sem, b95_25, nthA, nthB, nthC, Int.reduceBEq, Nat.reduceAdd, Nat.reduceEqDiff, Nat.reduceBEq, Nat.reduceLeDiff, reduceCtorEq, ↓reduceIte];simp only [go_sem, b95_24, nthA, nthB, nthC, Int.reduceBEq, Nat.reduceAdd, Nat.reduceEqDiff, Nat.reduceBEq, Nat.reduceLeDiff, reduceCtorEq, ↓reduceIte];simp only [go_sem, b95_23, nthA, nthB, nthC, Int.reduceBEq, Nat.reduceAdd, Nat.reduceEqDiff, Nat.reduceBEq, Nat.reduceLeDiff, reduceCtorEq, ↓reduceIte];simp only [go_sem, b95_11, nthA, nthB, nthC, Int.reduceBEq, Nat.reduceAdd, Nat.reduceEqDiff, Nat.reduceBEq, Nat.reduceLeDiff, reduceCtorEq, ↓reduceIte];simp only [go_sem, b95_22, nthA, nthB, nthC, Int.reduceBEq, Nat.reduceAdd, Nat.reduceEqDiff, Nat.reduceBEq, Nat.reduceLeDiff, reduceCtorEq, ↓reduceIte];simp only [go_sem, b95_21, nthA, nthB, nthC, Int.reduceBEq, Nat.reduceAdd, Nat.reduceEqDiff, Nat.reduceBEq, Nat.reduceLeDiff, reduceCtorEq, ↓reduceIte];simp only [go_sem, b95_20, nthA, nthB, nthC, Int.reduceBEq, Nat.reduceAdd, Nat.reduceEqDiff, Nat.reduceBEq, Nat.reduceLeDiff, reduceCtorEq, ↓reduceIte];simp only [go_sem, b95_19, nthA, nthB, nthC, Int.reduceBEq, Nat.reduceAdd, Nat.reduceEqDiff, Nat.reduceBEq, Nat.reduceLeDiff, reduceCtorEq, ↓reduceIte];refine ⟨by simp, wpsL_call rfl n1 ⟨rfl, trivial⟩ ?_⟩;refine zz4 ?_;refine wpsL_call rfl c197 ⟨rfl, trivial⟩ ?_;refine zz4 ?_
 first | exact rfl | exact ⟨rfl, rfl⟩ | exact ⟨rfl, rfl, rfl⟩
theorem ev_u19 (n : Int) (t : Str) (vs : List Val) (p : Exp) (env va w : Val) (y1 y : Int) (hp : MCon 95 [encE p] env 0 (.d (encV va)) y1) (hu : MCon 197 [.int .i64 19, encV (needV va y1)] env (needE va y1) (.d (encV w)) y) :
  MCon 95 [encE (.mk 19 n t vs [p])] env 0 (.d (encV w)) y := by
 refine ok95c.co (k := false) (mO_closed _ _ _) trivial ?_;have hb : ((0 : Int) != 0) = false := rfl;have c186 := walk186.call trivial;have hl : findM .i [(.int .i64 8, .fn (.func 257) [] []), (.int .i64 9, .fn (.func 258) [] []), (.int .i64 10, .fn (.func 259) [] []), (.int .i64 11, .fn (.func 260) [] [])] (.int .i64 19) = some none := rfl;rw [relM] at c186;have n1 := (walk187 p env va 0 y1 hp).to trivial;have c197 := hu.to trivial;generalize needV va y1 = wa at *;generalize needE va y1 = x1 at *;rw [encE_eq];simp only [Exp.op, Exp.int, Exp.text, Exp.value, Exp.args, List.map_cons, List.map_nil];rw [encE_eq p] at n1 ⊢;rw [encV_eq] at n1;rw [encV_eq wa, encV_eq w] at c197;rw [encV_eq w];simp only [go_sem, ir95c, mC, hb, List.map_cons, List.map_nil, Int.reduceBEq, Nat.reduceAdd, Nat.reduceEqDiff, Nat.reduceBEq, Nat.reduceLeDiff, reduceCtorEq, ↓reduceIte];refine wpsL_call rfl c186 trivial ?_;refine zz6 ?_;refine ⟨rfl, ?_⟩;simp only [go_sem, b95_27, nthA, nthB, nthC, Int.reduceBEq, Nat.reduceAdd, Nat.reduceEqDiff, Nat.reduceBEq, Nat.reduceLeDiff, reduceCtorEq, ↓reduceIte];simp only [go_sem, b95_26, nthA, nthB, nthC, Int.reduceBEq, Nat.reduceAdd, Nat.reduceEqDiff, Nat.reduceBEq, Nat.reduceLeDiff, reduceCtorEq, ↓reduceIte];simp only [go_sem, b95_25, nthA, nthB, nthC, Int.reduceBEq, Nat.reduceAdd, Nat.reduceEqDiff, Nat.reduceBEq, Nat.reduceLeDiff, reduceCtorEq, ↓reduceIte];simp only [go_sem, b95_24, nthA, nthB, nthC, Int.reduceBEq, Nat.reduceAdd, Nat.reduceEqDiff, Nat.reduceBEq, Nat.reduceLeDiff, reduceCtorEq, ↓reduceIte];simp only [go_sem, b95_23, nthA, nthB, nthC, Int.reduceBEq, Nat.reduceAdd, Nat.reduceEqDiff, Nat.reduceBEq, Nat.reduceLeDiff, reduceCtorEq, ↓reduceIte];simp only [go_sem, b95_11, nthA, nthB, nthC, Int.reduceBEq, Nat.reduceAdd, Nat.reduceEqDiff, Nat.reduceBEq, Nat.reduceLeDiff, reduceCtorEq, ↓reduceIte];simp only [go_sem, b95_22, nthA, nthB, nthC, Int.reduceBEq, Nat.reduceAdd, Nat.reduceEqDiff, Nat.reduceBEq, Nat.reduceLeDiff, reduceCtorEq, ↓reduceIte];simp only [go_sem, b95_21, nthA, nthB, nthC, Int.reduceBEq, Nat.reduceAdd, Nat.reduceEqDiff, Nat.reduceBEq, Nat.reduceLeDiff, reduceCtorEq, ↓reduceIte];simp only [go_sem, b95_20, nthA, nthB, nthC, Int.reduceBEq, Nat.reduceAdd, Nat.reduceEqDiff, Nat.reduceBEq, Nat.reduceLeDiff, reduceCtorEq, ↓reduceIte];simp only [go_sem, b95_19, nthA, nthB, nthC, Int.reduceBEq, Nat.reduceAdd, Nat.reduceEqDiff, Nat.reduceBEq, Nat.reduceLeDiff, reduceCtorEq, ↓reduceIte];refine ⟨by simp, wpsL_call rfl n1 ⟨rfl, trivial⟩ ?_⟩;refine zz4 ?_;refine wpsL_call rfl c197 ⟨rfl, trivial⟩ ?_;refine zz4 ?_
 first | exact rfl | exact ⟨rfl, rfl⟩ | exact ⟨rfl, rfl, rfl⟩
theorem ev_u20 (n : Int) (t : Str) (vs : List Val) (p : Exp) (env va w : Val) (y1 y : Int) (hp : MCon 95 [encE p] env 0 (.d (encV va)) y1) (hu : MCon 197 [.int .i64 20, encV (needV va y1)] env (needE va y1) (.d (encV w)) y) :
  MCon 95 [encE (.mk 20 n t vs [p])] env 0 (.d (encV w)) y := by
 refine ok95c.co (k := false) (mO_closed _ _ _) trivial ?_;have hb : ((0 : Int) != 0) = false := rfl;have c186 := walk186.call trivial;have hl : findM .i [(.int .i64 8, .fn (.func 257) [] []), (.int .i64 9, .fn (.func 258) [] []), (.int .i64 10, .fn (.func 259) [] []), (.int .i64 11, .fn (.func 260) [] [])] (.int .i64 20) = some none := rfl;rw [relM] at c186;have n1 := (walk187 p env va 0 y1 hp).to trivial;have c197 := hu.to trivial;generalize needV va y1 = wa at *;generalize needE va y1 = x1 at *;rw [encE_eq];simp only [Exp.op, Exp.int, Exp.text, Exp.value, Exp.args, List.map_cons, List.map_nil];rw [encE_eq p] at n1 ⊢;rw [encV_eq] at n1;rw [encV_eq wa, encV_eq w] at c197;rw [encV_eq w];simp only [go_sem, ir95c, mC, hb, List.map_cons, List.map_nil, Int.reduceBEq, Nat.reduceAdd, Nat.reduceEqDiff, Nat.reduceBEq, Nat.reduceLeDiff, reduceCtorEq, ↓reduceIte];refine wpsL_call rfl c186 trivial ?_;refine zz6 ?_;refine ⟨rfl, ?_⟩;simp only [go_sem, b95_27, nthA, nthB, nthC, Int.reduceBEq, Nat.reduceAdd, Nat.reduceEqDiff, Nat.reduceBEq, Nat.reduceLeDiff, reduceCtorEq, ↓reduceIte];simp only [go_sem, b95_26, nthA, nthB, nthC, Int.reduceBEq, Nat.reduceAdd, Nat.reduceEqDiff, Nat.reduceBEq, Nat.reduceLeDiff, reduceCtorEq, ↓reduceIte];simp only [go_sem, b95_25, nthA, nthB, nthC, Int.reduceBEq, Nat.reduceAdd, Nat.reduceEqDiff, Nat.reduceBEq, Nat.reduceLeDiff, reduceCtorEq, ↓reduceIte];simp only [go_sem, b95_24, nthA, nthB, nthC, Int.reduceBEq, Nat.reduceAdd, Nat.reduceEqDiff, Nat.reduceBEq, Nat.reduceLeDiff, reduceCtorEq, ↓reduceIte];simp only [go_sem, b95_23, nthA, nthB, nthC, Int.reduceBEq, Nat.reduceAdd, Nat.reduceEqDiff, Nat.reduceBEq, Nat.reduceLeDiff, reduceCtorEq, ↓reduceIte];simp only [go_sem, b95_11, nthA, nthB, nthC, Int.reduceBEq, Nat.reduceAdd, Nat.reduceEqDiff, Nat.reduceBEq, Nat.reduceLeDiff, reduceCtorEq, ↓reduceIte];simp only [go_sem, b95_22, nthA, nthB, nthC, Int.reduceBEq, Nat.reduceAdd, Nat.reduceEqDiff, Nat.reduceBEq, Nat.reduceLeDiff, reduceCtorEq, ↓reduceIte];simp only [go_sem, b95_21, nthA, nthB, nthC, Int.reduceBEq, Nat.reduceAdd, Nat.reduceEqDiff, Nat.reduceBEq, Nat.reduceLeDiff, reduceCtorEq, ↓reduceIte];simp only [go_sem, b95_20, nthA, nthB, nthC, Int.reduceBEq, Nat.reduceAdd, Nat.reduceEqDiff, Nat.reduceBEq, Nat.reduceLeDiff, reduceCtorEq, ↓reduceIte];simp only [go_sem, b95_19, nthA, nthB, nthC, Int.reduceBEq, Nat.reduceAdd, Nat.reduceEqDiff, Nat.reduceBEq, Nat.reduceLeDiff, reduceCtorEq, ↓reduceIte];refine ⟨by simp, wpsL_call rfl n1 ⟨rfl, trivial⟩ ?_⟩;refine zz4 ?_;refine wpsL_call rfl c197 ⟨rfl, trivial⟩ ?_;refine zz4 ?_
 first | exact rfl | exact ⟨rfl, rfl⟩ | exact ⟨rfl, rfl, rfl⟩
theorem ev_u27 (n : Int) (t : Str) (vs : List Val) (p : Exp) (env va w : Val) (y1 y : Int) (hp : MCon 95 [encE p] env 0 (.d (encV va)) y1) (hu : MCon 197 [.int .i64 27, encV (needV va y1)] env (needE va y1) (.d (encV w)) y) :
  MCon 95 [encE (.mk 27 n t vs [p])] env 0 (.d (encV w)) y := by
 refine ok95c.co (k := false) (mO_closed _ _ _) trivial ?_;have hb : ((0 : Int) != 0) = false := rfl;have c186 := walk186.call trivial;have hl : findM .i [(.int .i64 8, .fn (.func 257) [] []), (.int .i64 9, .fn (.func 258) [] []), (.int .i64 10, .fn (.func 259) [] []), (.int .i64 11, .fn (.func 260) [] [])] (.int .i64 27) = some none := rfl;rw [relM] at c186;have n1 := (walk187 p env va 0 y1 hp).to trivial;have c197 := hu.to trivial;generalize needV va y1 = wa at *;generalize needE va y1 = x1 at *;rw [encE_eq];simp only [Exp.op, Exp.int, Exp.text, Exp.value, Exp.args, List.map_cons, List.map_nil];rw [encE_eq p] at n1 ⊢;rw [encV_eq] at n1;rw [encV_eq wa, encV_eq w] at c197;rw [encV_eq w];simp only [go_sem, ir95c, mC, hb, List.map_cons, List.map_nil, Int.reduceBEq, Nat.reduceAdd, Nat.reduceEqDiff, Nat.reduceBEq, Nat.reduceLeDiff, reduceCtorEq, ↓reduceIte];refine wpsL_call rfl c186 trivial ?_;refine zz6 ?_;refine ⟨rfl, ?_⟩;simp only [go_sem, b95_27, nthA, nthB, nthC, Int.reduceBEq, Nat.reduceAdd, Nat.reduceEqDiff, Nat.reduceBEq, Nat.reduceLeDiff, reduceCtorEq, ↓reduceIte];simp only [go_sem, b95_26, nthA, nthB, nthC, Int.reduceBEq, Nat.reduceAdd, Nat.reduceEqDiff, Nat.reduceBEq, Nat.reduceLeDiff, reduceCtorEq, ↓reduceIte];simp only [go_sem, b95_25, nthA, nthB, nthC, Int.reduceBEq, Nat.reduceAdd, Nat.reduceEqDiff, Nat.reduceBEq, Nat.reduceLeDiff, reduceCtorEq, ↓reduceIte];simp only [go_sem, b95_24, nthA, nthB, nthC, Int.reduceBEq, Nat.reduceAdd, Nat.reduceEqDiff, Nat.reduceBEq, Nat.reduceLeDiff, reduceCtorEq, ↓reduceIte];simp only [go_sem, b95_23, nthA, nthB, nthC, Int.reduceBEq, Nat.reduceAdd, Nat.reduceEqDiff, Nat.reduceBEq, Nat.reduceLeDiff, reduceCtorEq, ↓reduceIte];simp only [go_sem, b95_11, nthA, nthB, nthC, Int.reduceBEq, Nat.reduceAdd, Nat.reduceEqDiff, Nat.reduceBEq, Nat.reduceLeDiff, reduceCtorEq, ↓reduceIte];simp only [go_sem, b95_22, nthA, nthB, nthC, Int.reduceBEq, Nat.reduceAdd, Nat.reduceEqDiff, Nat.reduceBEq, Nat.reduceLeDiff, reduceCtorEq, ↓reduceIte];simp only [go_sem, b95_21, nthA, nthB, nthC, Int.reduceBEq, Nat.reduceAdd, Nat.reduceEqDiff, Nat.reduceBEq, Nat.reduceLeDiff, reduceCtorEq, ↓reduceIte];simp only [go_sem, b95_20, nthA, nthB, nthC, Int.reduceBEq, Nat.reduceAdd, Nat.reduceEqDiff, Nat.reduceBEq, Nat.reduceLeDiff, reduceCtorEq, ↓reduceIte];simp only [go_sem, b95_19, nthA, nthB, nthC, Int.reduceBEq, Nat.reduceAdd, Nat.reduceEqDiff, Nat.reduceBEq, Nat.reduceLeDiff, reduceCtorEq, ↓reduceIte];refine ⟨by simp, wpsL_call rfl n1 ⟨rfl, trivial⟩ ?_⟩;refine zz4 ?_;refine wpsL_call rfl c197 ⟨rfl, trivial⟩ ?_;refine zz4 ?_
 first | exact rfl | exact ⟨rfl, rfl⟩ | exact ⟨rfl, rfl, rfl⟩
theorem ev_u28 (n : Int) (t : Str) (vs : List Val) (p : Exp) (env va w : Val) (y1 y : Int) (hp : MCon 95 [encE p] env 0 (.d (encV va)) y1) (hu : MCon 197 [.int .i64 28, encV (needV va y1)] env (needE va y1) (.d (encV w)) y) :
  MCon 95 [encE (.mk 28 n t vs [p])] env 0 (.d (encV w)) y := by
 refine ok95c.co (k := false) (mO_closed _ _ _) trivial ?_;have hb : ((0 : Int) != 0) = false := rfl;have c186 := walk186.call trivial;have hl : findM .i [(.int .i64 8, .fn (.func 257) [] []), (.int .i64 9, .fn (.func 258) [] []), (.int .i64 10, .fn (.func 259) [] []), (.int .i64 11, .fn (.func 260) [] [])] (.int .i64 28) = some none := rfl;rw [relM] at c186;have n1 := (walk187 p env va 0 y1 hp).to trivial;have c197 := hu.to trivial;generalize needV va y1 = wa at *;generalize needE va y1 = x1 at *;rw [encE_eq];simp only [Exp.op, Exp.int, Exp.text, Exp.value, Exp.args, List.map_cons, List.map_nil];rw [encE_eq p] at n1 ⊢;rw [encV_eq] at n1;rw [encV_eq wa, encV_eq w] at c197;rw [encV_eq w];simp only [go_sem, ir95c, mC, hb, List.map_cons, List.map_nil, Int.reduceBEq, Nat.reduceAdd, Nat.reduceEqDiff, Nat.reduceBEq, Nat.reduceLeDiff, reduceCtorEq, ↓reduceIte];refine wpsL_call rfl c186 trivial ?_;refine zz6 ?_;refine ⟨rfl, ?_⟩;simp only [go_sem, b95_27, nthA, nthB, nthC, Int.reduceBEq, Nat.reduceAdd, Nat.reduceEqDiff, Nat.reduceBEq, Nat.reduceLeDiff, reduceCtorEq, ↓reduceIte];simp only [go_sem, b95_26, nthA, nthB, nthC, Int.reduceBEq, Nat.reduceAdd, Nat.reduceEqDiff, Nat.reduceBEq, Nat.reduceLeDiff, reduceCtorEq, ↓reduceIte];simp only [go_sem, b95_25, nthA, nthB, nthC, Int.reduceBEq, Nat.reduceAdd, Nat.reduceEqDiff, Nat.reduceBEq, Nat.reduceLeDiff, reduceCtorEq, ↓reduceIte];simp only [go_sem, b95_24, nthA, nthB, nthC, Int.reduceBEq, Nat.reduceAdd, Nat.reduceEqDiff, Nat.reduceBEq, Nat.reduceLeDiff, reduceCtorEq, ↓reduceIte];simp only [go_sem, b95_23, nthA, nthB, nthC, Int.reduceBEq, Nat.reduceAdd, Nat.reduceEqDiff, Nat.reduceBEq, Nat.reduceLeDiff, reduceCtorEq, ↓reduceIte];simp only [go_sem, b95_11, nthA, nthB, nthC, Int.reduceBEq, Nat.reduceAdd, Nat.reduceEqDiff, Nat.reduceBEq, Nat.reduceLeDiff, reduceCtorEq, ↓reduceIte];simp only [go_sem, b95_22, nthA, nthB, nthC, Int.reduceBEq, Nat.reduceAdd, Nat.reduceEqDiff, Nat.reduceBEq, Nat.reduceLeDiff, reduceCtorEq, ↓reduceIte];simp only [go_sem, b95_21, nthA, nthB, nthC, Int.reduceBEq, Nat.reduceAdd, Nat.reduceEqDiff, Nat.reduceBEq, Nat.reduceLeDiff, reduceCtorEq, ↓reduceIte];simp only [go_sem, b95_20, nthA, nthB, nthC, Int.reduceBEq, Nat.reduceAdd, Nat.reduceEqDiff, Nat.reduceBEq, Nat.reduceLeDiff, reduceCtorEq, ↓reduceIte];simp only [go_sem, b95_19, nthA, nthB, nthC, Int.reduceBEq, Nat.reduceAdd, Nat.reduceEqDiff, Nat.reduceBEq, Nat.reduceLeDiff, reduceCtorEq, ↓reduceIte];refine ⟨by simp, wpsL_call rfl n1 ⟨rfl, trivial⟩ ?_⟩;refine zz4 ?_;refine wpsL_call rfl c197 ⟨rfl, trivial⟩ ?_;refine zz4 ?_
 first | exact rfl | exact ⟨rfl, rfl⟩ | exact ⟨rfl, rfl, rfl⟩
theorem walk158 (p : Part) : PT 158 [encP p] (.d (.bool (p.kind == 3))) := by
 refine ok158.pc ?_;simp only [encP];simp only [go_sem, ir158, simprocAttr]
theorem walk77 (l : List Part) (hl : l.length ≤ 68719476736) : PT 77 [.list 3 (l.map encP)] (.d (.bool (evP l))) := by
 refine ok77.pc ?_;have hc := (walk157g walk158 l hl).call trivial;simp only [go_sem, ir77, simprocAttr];refine wn hc ?_;simp only [go_sem, evP, simprocAttr]
theorem c77 (t : Str) : CT 77 [.d (.list 3 ((parseS t).1.map encP))] [] (.d (.bool (evP (parseS t).1))) [] := (walk77 _ (by have := parseS_ln t; omega)).call trivial
theorem cv_ok {l : List Val} (h : cvE l = 0) : ∃ v, l = [v] ∧ v.list = [] ∧ v.fields = [] ∧ v.text.length ≤ 1024 := by
 match l, h with
 | [], h => cases h
 | _ :: _ :: _, h => cases h
 | [v], h =>
  refine ⟨v, rfl, ?_⟩;have h : (if chkV v != 0 then chkV v else if !scalarB v.kind then (18 : Int) else 0) = 0 := h;split at h
  ·rename_i h1;rw [h] at h1; cases h1
  rename_i hc;split at h
  ·cases h
  rename_i hk;have hc : chkV v = 0 := sX hc;simp only [Bool.not_eq_true', scalarB, Bool.and_eq_false_iff, decide_eq_false_iff_not, not_or, Classical.not_not, ge_iff_le] at hk;unfold chkV at hc;simp only [visF] at hc;split at hc
  ·rename_i h1; exact absurd hc h1
  rename_i h1;simp only [ne_eq, Decidable.not_not] at h1;unfold chkE at h1;split at h1
  ·cases h1
  split at h1
  ·cases h1
  split at h1
  ·cases h1
  split at h1
  ·cases h1
  split at h1
  ·cases h1
  rename_i hu;simp only [Bool.not_eq_true', Bool.not_eq_false] at hu;simp only [usesV, useN, useT, useL, Bool.and_eq_true, Bool.or_eq_true, beq_iff_eq] at hu;obtain ⟨⟨⟨⟨_, _⟩, ht⟩, hl⟩, hf⟩ := hu;have l0 : v.list = [] := List.length_eq_zero_iff.1 (by rcases hl with hl | hl <;> omega);have f0 : v.fields = [] := List.length_eq_zero_iff.1 (by rcases hf with hf | hf <;> omega);refine ⟨l0, f0, ?_⟩;by_cases k4 : v.kind = 4
  ·have e4 : ruleE v = textE v := by simp [ruleE, k4]
   rw [e4] at h1;have hs : szE v.text.length 1024 5 = 0 := by
    unfold textE at h1;split at h1
    ·cases h1
    ·exact h1
   unfold szE at hs;split at hs
   ·cases hs
   ·rename_i h2;simp only [decide_eq_true_eq] at h2;omega
  by_cases k5 : v.kind = 5
  ·have e5 : ruleE v = szE v.text.length 1024 5 := by simp [ruleE, k5]
   rw [e5] at h1;unfold szE at h1;split at h1
   ·cases h1
   ·rename_i h2;simp only [decide_eq_true_eq] at h2;omega
  ·have : v.text = [] := by
    rcases ht with ((ht | ht) | ht) | ht
    ·exact absurd ht k4
    ·exact absurd ht k5
    ·omega
    ·exact ht
   rw [this]; simp
theorem one_args {e : Exp} (h : oneE e = 0) : 1 ≤ e.op ∧ e.op ≤ 28 ∧ (arityF e.op).1 ≤ (e.args.length : Int) ∧ (e.op ≠ 25 → (e.args.length : Int) ≤ (arityF e.op).2) ∧ (e.op = 1 → cvE e.value = 0) ∧ (pathedB e.op = true → (parseS e.text).2 = 0) := by
 unfold oneE at h;split at h
 ·cases h
 rename_i h1;split at h
 ·cases h
 split at h
 ·cases h
 rename_i h2;split at h
 ·cases h
 rename_i h3;split at h
 ·cases h
 rename_i h4;simp only [Bool.or_eq_true, decide_eq_true_eq, not_or, Int.not_lt, gt_iff_lt] at h1;simp only [decide_eq_true_eq, Int.not_lt] at h3;have ha : e.op ≠ 25 → (e.args.length : Int) ≤ (arityF e.op).2 := by
  intro h25;simp only [Bool.and_eq_true, decide_eq_true_eq, bne_iff_ne, ne_eq, not_and, Classical.not_not, gt_iff_lt] at h4;by_cases hlt : (arityF e.op).2 < (e.args.length : Int)
  ·exact absurd (h4 hlt) h25
  ·omega
 refine ⟨oM, oM, h3, ha, ?_, ?_⟩
 ·intro h5;rw [if_pos (by simp [h5])] at h;exact h
 ·intro hp;split at h
  ·rename_i h5;simp only [beq_iff_eq] at h5;rw [h5] at hp; cases hp
  split at h
  ·rename_i h6;simp only [hp, Bool.true_and, bne_iff_ne, ne_eq] at h6;exact absurd h h6
  ·rename_i h6;simpa [hp] using h6
theorem parse_ln {s : Str} (h : (parseS s).2 = 0) : s.length ≤ 200 := by
 unfold parseS at h;split at h
 ·cases h
 split at h
 ·cases h
 ·rename_i h2;omega
end Go.Proofs
namespace Go.Proofs
open Go Av
variable {v : Val} {B : Nat} {l : List Exp}
mutual
def okT : Val → Prop
 | .mk _ _ _ t l f => t.length ≤ 4096 ∧ okTs l ∧ okTf f
def okTs : List Val → Prop
 | [] => True
 | v :: r => okT v ∧ okTs r
def okTf : List Fld → Prop
 | [] => True
 | .mk n v :: r => n.length ≤ 4096 ∧ okT v ∧ okTf r
end
theorem okT_eq (v : Val) : okT v ↔ v.text.length ≤ 4096 ∧ okTs v.list ∧ okTf v.fields := by cases v; rfl
theorem okTs_mem : ∀ {l : List Val}, okTs l → ∀ x ∈ l, okT x
 | v :: r, h, x, hx => by
  rcases List.mem_cons.1 hx with rfl | hx
  ·exact h.1
  ·exact okTs_mem h.2 x hx
theorem okTf_mem : ∀ {l : List Fld}, okTf l → ∀ x ∈ l, okT x.value
 | .mk n v :: r, h, x, hx => by
  rcases List.mem_cons.1 hx with rfl | hx
  ·exact h.2.1
  ·exact okTf_mem h.2.2 x hx
mutual
def nmV : Val → Prop
 | .mk _ _ _ _ l f => nmVs l ∧ nmVf f
def nmVs : List Val → Prop
 | [] => True
 | v :: r => nmV v ∧ nmVs r
def nmVf : List Fld → Prop
 | [] => True
 | .mk n v :: r => n.length ≤ 4096 ∧ nmV v ∧ nmVf r
end
theorem nmV_eq (v : Val) : nmV v ↔ nmVs v.list ∧ nmVf v.fields := by cases v; rfl
mutual
theorem okT_N : ∀ v : Val, okT v → nmV v
 | .mk _ _ _ _ l f, h => ⟨okTs_N l h.2.1, okTf_N f h.2.2⟩
theorem okTs_N : ∀ l : List Val, okTs l → nmVs l
 | [], _ => trivial
 | v :: r, h => ⟨okT_N v h.1, okTs_N r h.2⟩
theorem okTf_N : ∀ l : List Fld, okTf l → nmVf l
 | [], _ => trivial
 | .mk _ v :: r, h => ⟨h.1, okT_N v h.2.1, okTf_N r h.2.2⟩
end
theorem nmVs_of : ∀ {l : List Val}, (∀ x ∈ l, nmV x) → nmVs l
 | [], _ => trivial
 | v :: r, h => ⟨h v List.mem_cons_self, nmVs_of fun x hx => h x (List.mem_cons_of_mem _ hx)⟩
theorem flat_nm (h1 : v.list = [] ∧ v.fields = []) : nmV v := by
 rw [nmV_eq, h1.1, h1.2];exact ⟨trivial, trivial⟩
theorem okT_led (p : Part) (v : Val) (h : okT v) : ∀ x ∈ ledP p v, okT x := by
 obtain ⟨_, hl, hf⟩ := (okT_eq v).1 h;unfold ledP;split
 ·split
  ·rename_i h;have hbd := ixF_bd (q := fun f => f.name == p.name) (l := v.fields);change -1 ≤ ixN p.name v.fields ∧ ixN p.name v.fields < v.fields.length at hbd;have hk : (ixN p.name v.fields).toNat < v.fields.length := oM;rw [List.getElem?_eq_getElem hk];intro x hx;simp only [Option.map_some, Option.getD_some, List.mem_singleton] at hx;rw [hx];exact okTf_mem hf _ (List.getElem_mem hk)
  ·intro x hx; cases hx
 split
 ·exact okTs_mem hl
 split
 ·intro x hx;exact okTs_mem hl x (List.mem_of_mem_drop (List.mem_of_mem_take hx))
 ·intro x hx; cases hx
theorem okT_walk : ∀ (l : List Part) {now out : List Val}, walkN l now = some out → (∀ x ∈ now, okT x) → ∀ x ∈ out, okT x
 | [], now, out, h, hn => by cases h; exact hn
 | p :: r, now, out, h, hn => by
  simp only [walkN] at h;split at h
  ·refine okT_walk r h ?_;intro x hx;obtain ⟨y, hy, hx⟩ := List.mem_flatMap.1 hx;exact okT_led p y (hn y hy) x hx
  ·cases h
theorem okT_find (v : Val) (l : List Part) (h : okT v) : ∀ x ∈ (findV v l).1, okT x := by
 unfold findV;split
 ·intro x hx; cases hx
 ·cases e : walkN l [v] with
  | none => intro x hx; cases hx
  | some now =>
   have := okT_walk l e (by intro x hx; rcases List.mem_singleton.1 hx with rfl; exact h);simp only [findR];split
   ·intro x hx; cases hx
   ·exact this
theorem flat_sz {w : Val} (h : flatV w) : szV w ≤ 1000000 := by
 rw [szV_eq, h.1, h.2];simp [szVs, szFs]
theorem zero_flat : flatV zeroV := ⟨rfl, rfl⟩
theorem bool_flat (b : Bool) : flatV (boolV b) ∧ (boolV b).text = [] := by cases b <;> exact ⟨⟨rfl, rfl⟩, rfl⟩
def goodV (B : Nat) (v : Val) : Prop := szV v ≤ 1000000 ∧ v.text.length ≤ B ∧ nmV v
theorem goodV.flat (h : flatV v) (ht : v.text = []) : goodV B v := ⟨flat_sz h, by rw [ht]; exact Nat.zero_le _, flat_nm h⟩
theorem good_num (B : Nat) (wh : Bool) (n : Int × Int) (er : Int) : goodV B (numV wh n er) := goodV.flat (numV_flat wh n er).1 (numV_flat wh n er).2
theorem good_zero (B : Nat) : goodV B zeroV := goodV.flat zero_flat rfl
theorem good_bool (B : Nat) (b : Bool) : goodV B (boolV b) := goodV.flat (bool_flat b).1 (bool_flat b).2
theorem good_need (h : goodV B v) (y : Int) : goodV B (needV v y) := by
 unfold needV;split
 ·exact good_zero B
 ·exact h
theorem good_mono {C : Nat} (h : goodV B v) (hb : B ≤ C) : goodV C v := ⟨h.1, Nat.le_trans h.2.1 hb, h.2.2⟩
theorem good_ok (h : goodV B v) : okV v := okV_sz v (by have := h.1; omega)
theorem good_ari (B : Nat) (op sc : Int) (a b : Val) (x : Int) : goodV B (ariV op sc a b x).1 := by
 unfold ariV;split
 ·exact good_zero B
 split
 ·exact good_zero B
 ·exact good_num B _ _ _
theorem good_cat (hB : 1024 ≤ B) (a b : Val) (x : Int) : goodV B (catM a b x).1 := by
 unfold catM;split
 ·exact good_zero B
 split
 ·exact good_zero B
 split
 ·exact good_zero B
 ·rename_i h;simp only [decide_eq_true_eq] at h;refine ⟨flat_sz ⟨rfl, rfl⟩, ?_, flat_nm ⟨rfl, rfl⟩⟩;show (a.text ++ b.text).length ≤ B;rw [List.length_append];omega
theorem good_sum (B : Nat) (e : Exp) (env : Val) (x : Int) : goodV B (sumM e env x).1 := by
 unfold sumM;simp only;split
 ·exact good_zero B
 split
 ·exact good_zero B
 split
 ·exact good_zero B
 split
 ·exact good_num B _ _ _
 split
 ·exact good_zero B
 ·exact good_num B _ _ _
theorem fold_mem {f : Int → Exp → Int × Int} : ∀ (l : List Exp) (n : Int), (foldE f n l).1 = 0 → ∀ p ∈ l, ∃ m, (f m p).1 = 0
 | v :: r, n, h, p, hp => by
  obtain ⟨h1, h2⟩ := foldE_cons h;rcases List.mem_cons.1 hp with rfl | hp
  ·exact ⟨n, h1⟩
  ·exact fold_mem r _ (by rw [← h2]; exact h) p hp
theorem len1 (h : l.length = 1) : ∃ p, l = [p] := by
 match l, h with
 | [p], _ => exact ⟨p, rfl⟩
theorem len2 (h : l.length = 2) : ∃ p q, l = [p, q] := by
 match l, h with
 | [p, q], _ => exact ⟨p, q, rfl⟩
theorem len3 (h : l.length = 3) : ∃ p q r, l = [p, q, r] := by
 match l, h with
 | [p, q, r], _ => exact ⟨p, q, r, rfl⟩
end Go.Proofs
namespace Go.Proofs
open Go Av
variable {v : Val}
theorem szE_le {n m e : Int} (he : e ≠ 0) (h : szE n m e = 0) : n ≤ m := by
 unfold szE at h;split at h
 ·exact absurd h he
 ·rename_i h1; simpa using h1
theorem chkE_ok {n level : Int} (h : chkE n level v = 0) : usesV v = true ∧ ruleE v = 0 := by
 unfold chkE at h;split at h
 ·cases h
 split at h
 ·cases h
 split at h
 ·cases h
 split at h
 ·cases h
 split at h
 ·cases h
 ·rename_i hu; exact ⟨by simpa using hu, h⟩
theorem recE_names : ∀ {l : List Fld} {o : Option Str}, recE o l = 0 → ∀ f ∈ l, nameS f.name = true
 | [], _, _, f, hf => by cases hf
 | g :: r, none, h, f, hf => by
  simp only [recE] at h;split at h
  ·cases h
  ·rename_i hn;rcases List.mem_cons.1 hf with rfl | hf
   ·simpa using hn
   ·exact recE_names h f hf
 | g :: r, some p, h, f, hf => by
  simp only [recE] at h;split at h
  ·cases h
  split at h
  ·cases h
  split at h
  ·cases h
  ·rename_i hn _ _;rcases List.mem_cons.1 hf with rfl | hf
   ·simpa using hn
   ·exact recE_names h f hf
theorem uses_ok (h : usesV v = true) : ((v.kind = 8 ∨ v.kind = 10) ∨ v.list = []) ∧ (v.kind = 9 ∨ v.fields = []) ∧ (v.kind = 4 ∨ v.kind = 5 ∨ v.kind = 10 ∨ v.text = []) := by
 simp only [usesV, useT, useL, Bool.and_eq_true, Bool.or_eq_true, beq_iff_eq] at h;obtain ⟨⟨⟨_, h1⟩, h2⟩, h3⟩ := h;refine ⟨?_, ?_, ?_⟩
 ·rcases h2 with h2 | h2
  ·exact .inl h2
  ·exact .inr (List.length_eq_zero_iff.1 oM)
 ·rcases h3 with h3 | h3
  ·exact .inl h3
  ·exact .inr (List.length_eq_zero_iff.1 oM)
 ·rcases h1 with ((h1 | h1) | h1) | h1
  ·exact .inl h1
  ·exact .inr (.inl h1)
  ·exact .inr (.inr (.inl h1))
  ·exact .inr (.inr (.inr h1))
theorem rule_text (hu : usesV v = true) (h : ruleE v = 0) : v.text.length ≤ 4096 := by
 obtain ⟨_, _, h3⟩ := uses_ok hu;unfold ruleE at h;rcases h3 with e | e | e | e
 ·rw [if_neg oM, if_neg oM, if_neg oM, if_pos e] at h;unfold textE at h;split at h
  ·cases h
  ·have := szE_le dC h; omega
 ·rw [if_neg oM, if_neg oM, if_neg oM, if_neg oM, if_pos e] at h;have := szE_le dC h; omega
 ·rw [if_neg oM, if_neg oM, if_neg oM, if_neg oM, if_neg oM, if_neg oM, if_neg oM, if_neg oM, if_neg oM] at h;unfold varE at h;split at h
  ·cases h
  ·rename_i hn;have := nameS_len (s := v.text) (sX hn);omega
 ·rw [e]; exact Nat.zero_le _
theorem rule_names (e : v.kind = 9) (h : ruleE v = 0) : ∀ f ∈ v.fields, f.name.length ≤ 4096 := by
 unfold ruleE at h;rw [if_neg oM, if_neg oM, if_neg oM, if_neg oM, if_neg oM, if_neg oM, if_neg oM, if_neg oM, if_pos e] at h;unfold recV at h;split at h
 ·rename_i h1; rw [h] at h1; cases h1
 ·intro f hf;have := nameS_len (recE_names h f hf);omega
theorem foldV_sz {f : Int → Val → Int × Int} (hf : ∀ n v, (f n v).1 = 0 → (f n v).2 = n + szV v ∧ okT v) : ∀ (l : List Val) (n : Int), (foldV f n l).1 = 0 → (foldV f n l).2 = n + szVs l ∧ okTs l
 | [], n, _ => by simp [foldV, szVs, okTs]
 | v :: r, n, h => by
  simp only [foldV] at h ⊢;split at h
  ·rename_i hx; exact absurd h hx
  ·rename_i hx;rw [if_neg hx];simp only [ne_eq, Decidable.not_not] at hx;obtain ⟨h1, h2⟩ := hf n v hx;obtain ⟨h3, h4⟩ := foldV_sz hf r _ h;simp only [szVs, okTs];exact ⟨by rw [h3, h1]; push_cast; omega, h2, h4⟩
theorem szFs_map : ∀ l : List Fld, szFs l = szVs (l.map Fld.value)
 | [] => rfl
 | .mk n v :: r => by simp only [szFs, List.map_cons, szVs, szFs_map r, Fld.value]
theorem okTf_of : ∀ {l : List Fld}, (∀ f ∈ l, f.name.length ≤ 4096) → okTs (l.map Fld.value) → okTf l
 | [], _, _ => trivial
 | .mk n v :: r, h, h2 => ⟨h _ List.mem_cons_self, h2.1, okTf_of (fun f hf => h f (List.mem_cons_of_mem _ hf)) h2.2⟩
theorem visF_sz : ∀ (k : Nat) (n : Int) (v : Val), (visF k n v).1 = 0 → (visF k n v).2 = n + szV v ∧ okT v
 | 0, n, v, h => absurd h (chk9 _ _)
 | k + 1, n, v, h => by
  simp only [visF] at h ⊢;split at h
  ·rename_i hx; exact absurd h hx
  ·rename_i hx;rw [if_neg hx];simp only [ne_eq, Decidable.not_not] at hx;obtain ⟨hu, hr⟩ := chkE_ok hx;obtain ⟨u1, u2, u3⟩ := uses_ok hu;obtain ⟨h1, h2⟩ := foldV_sz (visF_sz k) _ _ h;have ht := rule_text hu hr;rw [h1, szV_eq, okT_eq];unfold partsV at h2 ⊢;by_cases e : v.kind = 8 ∨ v.kind = 10
   ·have hf : v.fields = [] := by rcases u2 with u2 | u2 <;> first | exact u2 | omega
    rw [if_pos e] at h2 ⊢;rw [hf];refine ⟨by simp only [szFs]; push_cast; omega, ht, h2, trivial⟩
   ·have hl : v.list = [] := by rcases u1 with u1 | u1 <;> first | exact u1 | exact absurd u1 e
    rw [if_neg e] at h2 ⊢;rw [hl];by_cases e9 : v.kind = 9
    ·rw [if_pos e9] at h2 ⊢;rw [szFs_map];exact ⟨by simp only [szVs]; push_cast; omega, ht, trivial, okTf_of (rule_names e9 hr) h2⟩
    ·have hf : v.fields = [] := by rcases u2 with u2 | u2 <;> first | exact u2 | omega
     rw [if_neg e9] at h2 ⊢;rw [hf];exact ⟨by simp only [szVs, szFs]; push_cast; omega, ht, trivial, trivial⟩
theorem chkV_sz (h : chkV v = 0) : szV v ≤ 4096 ∧ okT v := by
 obtain ⟨h1, h2⟩ := visF_sz 8 0 v h;have h3 := (visF_n 8 0 v oM oM h).2;exact ⟨oM, h2⟩
theorem getV_bd4 (v : Val) (l : List Part) (h : okT v) (hz : szV v ≤ 4096) : szV (getV v l).1 ≤ 4097 ∧ (getV v l).1.text.length ≤ 4096 ∧ nmV (getV v l).1 := by
 have hs := findV_szv v l;have ht := okT_find v l h;unfold getV;split
 ·exact ⟨by show szV zeroV ≤ _; decide, Nat.zero_le _, flat_nm ⟨rfl, rfl⟩⟩
 split
 ·refine ⟨?_, Nat.zero_le _, nmVs_of fun x hx => okT_N x (ht x hx), trivial⟩;simp only [szV, szFs];omega
 ·cases e : (findV v l).1[0]? with
  | none => exact ⟨by show szV zeroV ≤ _; decide, Nat.zero_le _, flat_nm ⟨rfl, rfl⟩⟩
  | some x =>
   have hx : x ∈ (findV v l).1 := List.mem_of_getElem? e;have h1 := szVs_mem hx;have h2 := ht x hx;refine ⟨?_, ?_, okT_N x h2⟩
   ·show szV x ≤ _; omega
   ·exact ((okT_eq x).1 h2).1
end Go.Proofs
namespace Go.Proofs
open Go Av
def agr (env env2 : Val) : Nat → Exp → Prop
 | 0, _ => True
 | k + 1, e => (pathedB e.op = true → findV env (parseS e.text).1 = findV env2 (parseS e.text).1) ∧ ∀ p ∈ e.args, agr env env2 k p
theorem sumM_agr (e : Exp) (env env2 : Val) (x : Int) (h : findV env (parseS e.text).1 = findV env2 (parseS e.text).1) : sumM e env x = sumM e env2 x := by
 unfold sumM;rw [h]
def Una27 : Prop := ∀ v : Val, ∃ (w : Val) (y : Int), (∀ env, MCon 197 [.int .i64 27, encV v] env 0 (.d (encV w)) y) ∧ flatV w ∧ w.text.length ≤ v.text.length + 1000
set_option maxHeartbeats 1000000 in
theorem evl_two (htx : Txt0) (hsf : Sft0) (h27 : Una27) (env env2 : Val) (hz : szV env ≤ 4096) (hT : okT env) (hz2 : szV env2 ≤ 4096) (hT2 : okT env2) : ∀ (k : Nat) (n : Int) (e : Exp), k ≤ 8 → (eF k n e).1 = 0 → agr env env2 k e → ∀ x, ∃ v y, MCon 95 [encE e] env x (.d (encV v)) y ∧ MCon 95 [encE e] env2 x (.d (encV v)) y ∧ goodV (4096 * 4 ^ k) v := by
 intro k
 induction k with
 | zero => intro n e _ h _; exact absurd h (eF_zero n e)
 | succ k ih =>
  intro n e hk h ha x;obtain ⟨ag, ags⟩ := ha;by_cases hx : x ≠ 0
  ·exact ⟨zeroV, x, ev_x e env x hx, ev_x e env2 x hx, good_zero _⟩
  have hx : x = 0 := sX hx;subst hx;have hF := eF_succ h;have h1 : oneE e = 0 := by
   simp only [eF] at h;split at h
   ·cases h
   split at h
   ·rename_i h1; exact absurd h h1
   ·rename_i h1; simpa using h1
  rw [hF] at h;have hch := fold_mem e.args (n + 1) h;have IH : ∀ p ∈ e.args, ∀ x, ∃ v y, MCon 95 [encE p] env x (.d (encV v)) y ∧ MCon 95 [encE p] env2 x (.d (encV v)) y ∧ goodV (4096 * 4 ^ k) v := by
   intro p hp x;obtain ⟨m, hm⟩ := hch p hp;exact ih m p oM hm (ags p hp) x
  have hpow : 4096 * 4 ^ (k + 1) = 4 * (4096 * 4 ^ k) := by rw [Nat.pow_succ]; omega
  have hB0 : 4096 ≤ 4096 * 4 ^ k := Nat.le_mul_of_pos_right _ (Nat.pow_pos dC);have hB1 : 4096 * 4 ^ k ≤ 17179869184 := by
   have : 4 ^ k ≤ 4 ^ 8 := Nat.pow_le_pow_right dC oM;have e8 : (4 : Nat) ^ 8 = 65536 := dC;omega
  generalize 4096 * 4 ^ k = B at *;rw [hpow];obtain ⟨o1, o2, o3, o4, o5, o6⟩ := one_args h1;obtain ⟨op, i, t, vs, es⟩ := e;simp only [Exp.op, Exp.int, Exp.text, Exp.value, Exp.args] at *;have hop : op = 1 ∨ op = 2 ∨ op = 3 ∨ op = 4 ∨ op = 5 ∨ op = 6 ∨ op = 7 ∨ op = 8 ∨ op = 9 ∨ op = 10 ∨ op = 11 ∨ op = 12 ∨ op = 13 ∨ op = 14 ∨ op = 15 ∨ op = 16 ∨ op = 17 ∨ op = 18 ∨ op = 19 ∨ op = 20 ∨ op = 21 ∨ op = 22 ∨ op = 23 ∨ op = 24 ∨ op = 25 ∨ op = 26 ∨ op = 27 ∨ op = 28 := oM;rcases hop with rfl | rfl | rfl | rfl | rfl | rfl | rfl | rfl | rfl | rfl | rfl | rfl | rfl | rfl | rfl | rfl | rfl | rfl | rfl | rfl | rfl | rfl | rfl | rfl | rfl | rfl | rfl | rfl
  ·obtain ⟨v, rfl, l0, f0, ht⟩ := cv_ok (o5 rfl);have hf : flatV v := ⟨l0, f0⟩;refine ⟨v, 0, ev_1 i t v [] es (okV_sz v (by have := flat_sz hf; omega)) env, ev_1 i t v [] es (okV_sz v (by have := flat_sz hf; omega)) env2, flat_sz hf, oM, flat_nm hf⟩
  ·have hpl := parse_ln (o6 rfl);refine ⟨(pathM t env 0).1, (pathM t env 0).2, ev_path i t vs es env oM oM (c77 t), (by rw [show pathM t env 0 = pathM t env2 0 by (unfold pathM getV; rw [ag rfl])]; exact ev_path i t vs es env2 oM oM (c77 t)), ?_⟩;unfold pathM;split
   ·exact good_zero _
   ·obtain ⟨g1, g2, g3⟩ := getV_bd4 env (parseS t).1 hT hz;exact ⟨by show szV (getV env (parseS t).1).1 ≤ _; omega, by show (getV env (parseS t).1).1.text.length ≤ _; omega, g3⟩
  ·have ha : es.length = 1 := by have h1 := o3; have h2 := o4 dC; simp [arityF] at h1 h2; omega
   obtain ⟨p, rfl⟩ := len1 ha;obtain ⟨va, y1, hp, hp', ga⟩ := IH p sP 0;exact ⟨_, _, ev_not i t vs p env va y1 hp, ev_not i t vs p env2 va y1 hp', good_bool _ _⟩
  ·have ha : es.length = 2 := by have h1 := o3; have h2 := o4 dC; simp [arityF] at h1 h2; omega
   obtain ⟨p, q, rfl⟩ := len2 ha;obtain ⟨va, y1, hp, hp', ga⟩ := IH p sP 0;cases hc : truB va y1 with
   | true =>
    obtain ⟨vb, y2, hq, hq', gb⟩ := IH q sP (truE va y1);exact ⟨_, _, ev_and_g i t vs p q env va y1 vb y2 hp hq hc, ev_and_g i t vs p q env2 va y1 vb y2 hp' hq' hc, good_bool _ _⟩
   | false => exact ⟨_, _, ev_and_s i t vs p q env va y1 hp hc, ev_and_s i t vs p q env2 va y1 hp' hc, good_bool _ _⟩
  ·have ha : es.length = 2 := by have h1 := o3; have h2 := o4 dC; simp [arityF] at h1 h2; omega
   obtain ⟨p, q, rfl⟩ := len2 ha;obtain ⟨va, y1, hp, hp', ga⟩ := IH p sP 0;cases hc : truB va y1 with
   | false =>
    obtain ⟨vb, y2, hq, hq', gb⟩ := IH q sP (truE va y1);exact ⟨_, _, ev_or_g i t vs p q env va y1 vb y2 hp hq hc, ev_or_g i t vs p q env2 va y1 vb y2 hp' hq' hc, good_bool _ _⟩
   | true => exact ⟨_, _, ev_or_s i t vs p q env va y1 hp hc, ev_or_s i t vs p q env2 va y1 hp' hc, good_bool _ _⟩
  ·have ha : es.length = 2 := by have h1 := o3; have h2 := o4 dC; simp [arityF] at h1 h2; omega
   obtain ⟨p, q, rfl⟩ := len2 ha;obtain ⟨va, y1, hp, hp', ga⟩ := IH p sP 0;obtain ⟨vb, y2, hq, hq', gb⟩ := IH q sP (needE va y1);exact ⟨_, _, ev_eq i t vs p q env va vb y1 y2 hp hq (good_ok (good_need ga y1)) (good_ok (good_need gb y2)), ev_eq i t vs p q env2 va vb y1 y2 hp' hq' (good_ok (good_need ga y1)) (good_ok (good_need gb y2)), good_bool _ _⟩
  ·have ha : es.length = 2 := by have h1 := o3; have h2 := o4 dC; simp [arityF] at h1 h2; omega
   obtain ⟨p, q, rfl⟩ := len2 ha;obtain ⟨va, y1, hp, hp', ga⟩ := IH p sP 0;obtain ⟨vb, y2, hq, hq', gb⟩ := IH q sP (needE va y1);exact ⟨_, _, ev_ne i t vs p q env va vb y1 y2 hp hq (good_ok (good_need ga y1)) (good_ok (good_need gb y2)), ev_ne i t vs p q env2 va vb y1 y2 hp' hq' (good_ok (good_need ga y1)) (good_ok (good_need gb y2)), good_bool _ _⟩
  ·have ha : es.length = 2 := by have h1 := o3; have h2 := o4 dC; simp [arityF] at h1 h2; omega
   obtain ⟨p, q, rfl⟩ := len2 ha;obtain ⟨va, y1, hp, hp', ga⟩ := IH p sP 0;obtain ⟨vb, y2, hq, hq', gb⟩ := IH q sP (needE va y1);exact ⟨_, _, ev_R8 i t vs p q env va vb y1 y2 hp hq, ev_R8 i t vs p q env2 va vb y1 y2 hp' hq', good_bool _ _⟩
  ·have ha : es.length = 2 := by have h1 := o3; have h2 := o4 dC; simp [arityF] at h1 h2; omega
   obtain ⟨p, q, rfl⟩ := len2 ha;obtain ⟨va, y1, hp, hp', ga⟩ := IH p sP 0;obtain ⟨vb, y2, hq, hq', gb⟩ := IH q sP (needE va y1);exact ⟨_, _, ev_R9 i t vs p q env va vb y1 y2 hp hq, ev_R9 i t vs p q env2 va vb y1 y2 hp' hq', good_bool _ _⟩
  ·have ha : es.length = 2 := by have h1 := o3; have h2 := o4 dC; simp [arityF] at h1 h2; omega
   obtain ⟨p, q, rfl⟩ := len2 ha;obtain ⟨va, y1, hp, hp', ga⟩ := IH p sP 0;obtain ⟨vb, y2, hq, hq', gb⟩ := IH q sP (needE va y1);exact ⟨_, _, ev_R10 i t vs p q env va vb y1 y2 hp hq, ev_R10 i t vs p q env2 va vb y1 y2 hp' hq', good_bool _ _⟩
  ·have ha : es.length = 2 := by have h1 := o3; have h2 := o4 dC; simp [arityF] at h1 h2; omega
   obtain ⟨p, q, rfl⟩ := len2 ha;obtain ⟨va, y1, hp, hp', ga⟩ := IH p sP 0;obtain ⟨vb, y2, hq, hq', gb⟩ := IH q sP (needE va y1);exact ⟨_, _, ev_R11 i t vs p q env va vb y1 y2 hp hq, ev_R11 i t vs p q env2 va vb y1 y2 hp' hq', good_bool _ _⟩
  ·have ha : es.length = 2 := by have h1 := o3; have h2 := o4 dC; simp [arityF] at h1 h2; omega
   obtain ⟨p, q, rfl⟩ := len2 ha;obtain ⟨va, y1, hp, hp', ga⟩ := IH p sP 0;obtain ⟨vb, y2, hq, hq', gb⟩ := IH q sP (needE va y1);exact ⟨_, _, ev_A12 i t vs p q env va vb y1 y2 hp hq, ev_A12 i t vs p q env2 va vb y1 y2 hp' hq', good_ari _ _ _ _ _ _⟩
  ·have ha : es.length = 2 := by have h1 := o3; have h2 := o4 dC; simp [arityF] at h1 h2; omega
   obtain ⟨p, q, rfl⟩ := len2 ha;obtain ⟨va, y1, hp, hp', ga⟩ := IH p sP 0;obtain ⟨vb, y2, hq, hq', gb⟩ := IH q sP (needE va y1);exact ⟨_, _, ev_A13 i t vs p q env va vb y1 y2 hp hq, ev_A13 i t vs p q env2 va vb y1 y2 hp' hq', good_ari _ _ _ _ _ _⟩
  ·have ha : es.length = 2 := by have h1 := o3; have h2 := o4 dC; simp [arityF] at h1 h2; omega
   obtain ⟨p, q, rfl⟩ := len2 ha;obtain ⟨va, y1, hp, hp', ga⟩ := IH p sP 0;obtain ⟨vb, y2, hq, hq', gb⟩ := IH q sP (needE va y1);exact ⟨_, _, ev_A14 i t vs p q env va vb y1 y2 hp hq, ev_A14 i t vs p q env2 va vb y1 y2 hp' hq', good_ari _ _ _ _ _ _⟩
  ·have ha : es.length = 2 := by have h1 := o3; have h2 := o4 dC; simp [arityF] at h1 h2; omega
   obtain ⟨p, q, rfl⟩ := len2 ha;obtain ⟨va, y1, hp, hp', ga⟩ := IH p sP 0;obtain ⟨vb, y2, hq, hq', gb⟩ := IH q sP (needE va y1);exact ⟨_, _, ev_A15 i t vs p q env va vb y1 y2 hp hq, ev_A15 i t vs p q env2 va vb y1 y2 hp' hq', good_ari _ _ _ _ _ _⟩
  ·have ha : es.length = 1 := by have h1 := o3; have h2 := o4 dC; simp [arityF] at h1 h2; omega
   obtain ⟨p, rfl⟩ := len1 ha;obtain ⟨va, y1, hp, hp', ga⟩ := IH p sP 0;by_cases hy : needE va y1 = 0
   ·have gn := good_need ga y1;refine ⟨_, _, ev_u16 i t vs p env va _ y1 _ hp (by rw [hy]; exact un_16 (needV va y1) env), ev_u16 i t vs p env2 va _ y1 _ hp' (by rw [hy]; exact un_16 (needV va y1) env2), ?_⟩;unfold negM;split
    ·exact good_zero _
    ·exact good_num _ _ _ _
   ·exact ⟨_, _, ev_u16 i t vs p env va zeroV y1 (needE va y1) hp (un_x 16 _ env _ hy), ev_u16 i t vs p env2 va zeroV y1 (needE va y1) hp' (un_x 16 _ env2 _ hy), good_zero _⟩
  ·have ha : es.length = 2 := by have h1 := o3; have h2 := o4 dC; simp [arityF] at h1 h2; omega
   obtain ⟨p, q, rfl⟩ := len2 ha;obtain ⟨va, y1, hp, hp', ga⟩ := IH p sP 0;obtain ⟨vb, y2, hq, hq', gb⟩ := IH q sP (needE va y1);exact ⟨_, _, ev_cat i t vs p q env va vb y1 y2 hp hq, ev_cat i t vs p q env2 va vb y1 y2 hp' hq', good_cat oM _ _ _⟩
  ·have ha : es.length = 1 := by have h1 := o3; have h2 := o4 dC; simp [arityF] at h1 h2; omega
   obtain ⟨p, rfl⟩ := len1 ha;obtain ⟨va, y1, hp, hp', ga⟩ := IH p sP 0;by_cases hy : needE va y1 = 0
   ·have gn := good_need ga y1;refine ⟨_, _, ev_u18 i t vs p env va _ y1 _ hp (by rw [hy]; exact un_18 (needV va y1) env), ev_u18 i t vs p env2 va _ y1 _ hp' (by rw [hy]; exact un_18 (needV va y1) env2), ?_⟩;unfold lenM;split
    ·exact goodV.flat ⟨rfl, rfl⟩ rfl
    split
    ·exact goodV.flat ⟨rfl, rfl⟩ rfl
    ·exact good_zero _
   ·exact ⟨_, _, ev_u18 i t vs p env va zeroV y1 (needE va y1) hp (un_x 18 _ env _ hy), ev_u18 i t vs p env2 va zeroV y1 (needE va y1) hp' (un_x 18 _ env2 _ hy), good_zero _⟩
  ·have ha : es.length = 1 := by have h1 := o3; have h2 := o4 dC; simp [arityF] at h1 h2; omega
   obtain ⟨p, rfl⟩ := len1 ha;obtain ⟨va, y1, hp, hp', ga⟩ := IH p sP 0;by_cases hy : needE va y1 = 0
   ·have gn := good_need ga y1;refine ⟨_, _, ev_u19 i t vs p env va _ y1 _ hp (by rw [hy]; exact un_19 hsf (needV va y1) env), ev_u19 i t vs p env2 va _ y1 _ hp' (by rw [hy]; exact un_19 hsf (needV va y1) env2), ?_⟩;unfold cseM;split
    ·exact good_zero _
    ·refine ⟨flat_sz ⟨rfl, rfl⟩, ?_, flat_nm ⟨rfl, rfl⟩⟩;have e1 : (sftS (needV va y1).text 65 32).length = (needV va y1).text.length := List.length_map ..;have e2 : (sftS (needV va y1).text 97 (-32)).length = (needV va y1).text.length := List.length_map ..;have := gn.2;show (if ((19 : Int) == 19) = true then sftS (needV va y1).text 65 32 else sftS (needV va y1).text 97 (-32)).length ≤ _;split <;> omega
   ·exact ⟨_, _, ev_u19 i t vs p env va zeroV y1 (needE va y1) hp (un_x 19 _ env _ hy), ev_u19 i t vs p env2 va zeroV y1 (needE va y1) hp' (un_x 19 _ env2 _ hy), good_zero _⟩
  ·have ha : es.length = 1 := by have h1 := o3; have h2 := o4 dC; simp [arityF] at h1 h2; omega
   obtain ⟨p, rfl⟩ := len1 ha;obtain ⟨va, y1, hp, hp', ga⟩ := IH p sP 0;by_cases hy : needE va y1 = 0
   ·have gn := good_need ga y1;refine ⟨_, _, ev_u20 i t vs p env va _ y1 _ hp (by rw [hy]; exact un_20 hsf (needV va y1) env), ev_u20 i t vs p env2 va _ y1 _ hp' (by rw [hy]; exact un_20 hsf (needV va y1) env2), ?_⟩;unfold cseM;split
    ·exact good_zero _
    ·refine ⟨flat_sz ⟨rfl, rfl⟩, ?_, flat_nm ⟨rfl, rfl⟩⟩;have e1 : (sftS (needV va y1).text 65 32).length = (needV va y1).text.length := List.length_map ..;have e2 : (sftS (needV va y1).text 97 (-32)).length = (needV va y1).text.length := List.length_map ..;have := gn.2;show (if ((20 : Int) == 19) = true then sftS (needV va y1).text 65 32 else sftS (needV va y1).text 97 (-32)).length ≤ _;split <;> omega
   ·exact ⟨_, _, ev_u20 i t vs p env va zeroV y1 (needE va y1) hp (un_x 20 _ env _ hy), ev_u20 i t vs p env2 va zeroV y1 (needE va y1) hp' (un_x 20 _ env2 _ hy), good_zero _⟩
  ·have ha : es.length = 3 := by have h1 := o3; have h2 := o4 dC; simp [arityF] at h1 h2; omega
   obtain ⟨p, q, r, rfl⟩ := len3 ha;obtain ⟨va, y1, hp, hp', ga⟩ := IH p sP 0;obtain ⟨vb, y2, hq, hq', gb⟩ := IH q sP (needE va y1);obtain ⟨vc, y3, hr, hr', gc⟩ := IH r sP (needE vb y2);have gn := good_need ga y1;have hl := slcM_len (needV va y1) (needV vb y2) (needV vc y3) (needE vc y3);exact ⟨_, _, ev_slc htx i t vs p q r env va vb vc y1 y2 y3 hp hq hr (by have := gn.2; omega), ev_slc htx i t vs p q r env2 va vb vc y1 y2 y3 hp' hq' hr' (by have := gn.2; omega), flat_sz hl.2, by have := gn.2; have := hl.1; omega, flat_nm hl.2⟩
  ·have hpl := parse_ln (o6 rfl);refine ⟨(hasM t env 0).1, (hasM t env 0).2, ev_has i t vs es env oM oM (c77 t), (by rw [show hasM t env 0 = hasM t env2 0 by (unfold hasM getV; rw [ag rfl])]; exact ev_has i t vs es env2 oM oM (c77 t)), ?_⟩;unfold hasM;split
   ·exact good_zero _
   ·exact good_bool _ _
  ·have ha : es.length = 2 := by have h1 := o3; have h2 := o4 dC; simp [arityF] at h1 h2; omega
   obtain ⟨p, q, rfl⟩ := len2 ha;obtain ⟨va, y1, hp, hp', ga⟩ := IH p sP 0;cases hc : elsB va y1 with
   | true => exact ⟨_, _, ev_else_s i t vs p q env va y1 hp hc, ev_else_s i t vs p q env2 va y1 hp' hc, good_mono ga oM⟩
   | false =>
    obtain ⟨vb, y2, hq, hq', gb⟩ := IH q sP y1;exact ⟨_, _, ev_else_g i t vs p q env va vb y1 y2 hp hq hc, ev_else_g i t vs p q env2 va vb y1 y2 hp' hq' hc, good_mono gb oM⟩
  ·have ha : es.length = 3 := by have h1 := o3; have h2 := o4 dC; simp [arityF] at h1 h2; omega
   obtain ⟨p, q, r, rfl⟩ := len3 ha;obtain ⟨va, y1, hp, hp', ga⟩ := IH p sP 0;cases hc : truB va y1 with
   | true =>
    obtain ⟨vb, y2, hq, hq', gb⟩ := IH q sP (truE va y1);exact ⟨_, _, ev_if_t i t vs p q r env va vb y1 y2 hp hq hc, ev_if_t i t vs p q r env2 va vb y1 y2 hp' hq' hc, good_mono gb oM⟩
   | false =>
    obtain ⟨vb, y2, hq, hq', gb⟩ := IH r sP (truE va y1);exact ⟨_, _, ev_if_f i t vs p q r env va vb y1 y2 hp hq hc, ev_if_f i t vs p q r env2 va vb y1 y2 hp' hq' hc, good_mono gb oM⟩
  ·have ha : 2 ≤ es.length := by have h1 := o3; simp [arityF] at h1; omega
   obtain ⟨p, qs, rfl⟩ : ∃ p qs, es = p :: qs := by
    match es, ha with
    | p :: qs, _ => exact ⟨p, qs, rfl⟩
   have hcl : ∀ (q : Exp) (x : Int), ∃ r : Val × Int, (q ∈ p :: qs → MCon 95 [encE q] env x (.d (encV r.1)) r.2 ∧ MCon 95 [encE q] env2 x (.d (encV r.1)) r.2) ∧ goodV B r.1 := by
    intro q x;by_cases hq : q ∈ p :: qs
    ·obtain ⟨v, y, h, h', g⟩ := IH q hq x;exact ⟨(v, y), fun _ => ⟨h, h'⟩, g⟩
    ·exact ⟨(zeroV, 0), fun h => absurd h hq, good_zero B⟩
   have hin : ∀ e, e = p ∨ e ∈ qs → e ∈ p :: qs := fun e he => by
    rcases he with rfl | he
    ·exact List.mem_cons_self
    ·exact List.mem_cons_of_mem _ he
   refine ⟨boolV (inR (fun q x => Classical.choose (hcl q x)) p qs).1, (inR (fun q x => Classical.choose (hcl q x)) p qs).2, ?_, ?_, good_bool _ _⟩
   all_goals refine Con.of_fits ok95c.has fun hfit => ?_
   all_goals have hl := (fits_E (hfit (encE (.mk 25 i t vs (p :: qs))) sP)).2.2.1
   all_goals simp only [Exp.args, List.length_cons] at hl
   ·exact ev_in i t vs p qs env _ (fun e he x => ((Classical.choose_spec (hcl e x)).1 (hin e he)).1) (fun e x => good_ok (good_need (Classical.choose_spec (hcl e x)).2 _)) oM
   ·exact ev_in i t vs p qs env2 _ (fun e he x => ((Classical.choose_spec (hcl e x)).1 (hin e he)).2) (fun e x => good_ok (good_need (Classical.choose_spec (hcl e x)).2 _)) oM
  ·have hpl := parse_ln (o6 rfl);exact ⟨_, _, ev_sum i t vs es env oM oM (c77 t), (by rw [show sumM (.mk 26 i t vs es) env 0 = sumM (.mk 26 i t vs es) env2 0 from sumM_agr _ _ _ _ (ag rfl)]; exact ev_sum i t vs es env2 oM oM (c77 t)), good_sum _ _ _ _⟩
  ·have ha : es.length = 1 := by have h1 := o3; have h2 := o4 dC; simp [arityF] at h1 h2; omega
   obtain ⟨p, rfl⟩ := len1 ha;obtain ⟨va, y1, hp, hp', ga⟩ := IH p sP 0;by_cases hy : needE va y1 = 0
   ·have gn := good_need ga y1;obtain ⟨w, y, hw, hfl, hwl⟩ := h27 (needV va y1);exact ⟨w, y, ev_u27 i t vs p env va w y1 y hp (by rw [hy]; exact hw env), ev_u27 i t vs p env2 va w y1 y hp' (by rw [hy]; exact hw env2), flat_sz hfl, by have := gn.2; omega, flat_nm hfl⟩
   ·exact ⟨_, _, ev_u27 i t vs p env va zeroV y1 (needE va y1) hp (un_x 27 _ env _ hy), ev_u27 i t vs p env2 va zeroV y1 (needE va y1) hp' (un_x 27 _ env2 _ hy), good_zero _⟩
  ·have ha : es.length = 1 := by have h1 := o3; have h2 := o4 dC; simp [arityF] at h1 h2; omega
   obtain ⟨p, rfl⟩ := len1 ha;obtain ⟨va, y1, hp, hp', ga⟩ := IH p sP 0;by_cases hy : needE va y1 = 0
   ·have gn := good_need ga y1;refine ⟨_, _, ev_u28 i t vs p env va _ y1 _ hp (by rw [hy]; exact un_28 rep0_ok (needV va y1) env), ev_u28 i t vs p env2 va _ y1 _ hp' (by rw [hy]; exact un_28 rep0_ok (needV va y1) env2), ?_⟩;unfold nmbM;split
    ·exact good_zero _
    split
    ·exact good_zero _
    ·exact goodV.flat ⟨rfl, rfl⟩ rfl
   ·exact ⟨_, _, ev_u28 i t vs p env va zeroV y1 (needE va y1) hp (un_x 28 _ env _ hy), ev_u28 i t vs p env2 va zeroV y1 (needE va y1) hp' (un_x 28 _ env2 _ hy), good_zero _⟩
def posS : List Str → Str → Nat
 | [], _ => 0
 | y :: r, x => if strLt y x then posS r x + 1 else 0
def insOne (l : List Str) (x : Str) : List Str := if l[posS l x]? = some x then l else l.take (posS l x) ++ x :: l.drop (posS l x)
def insS (xs : List Str) : List Str := xs.foldl insOne []
theorem strLt_iff : ∀ (x y : Str), strLt x y = decide (x < y)
 | x, [] => by
  have : ¬ x < ([] : Str) := List.not_lt_nil x;simp [strLt, Op.bytesLess, this]
 | [], b :: y => by
  have : ([] : Str) < b :: y := List.nil_lt_cons b y;simp [strLt, Op.bytesLess, this]
 | a :: x, b :: y => by
  have ih := strLt_iff x y;simp only [strLt] at ih;simp only [strLt, Op.bytesLess, ih, List.cons_lt_cons_iff];by_cases h1 : a < b <;> by_cases h2 : a = b <;> simp [h1, h2]
theorem lt_irr (x : Str) : strLt x x = false := by
 rw [strLt_iff];simp [List.lt_irrefl]
theorem lt_tr {x y z : Str} (h1 : strLt x y = true) (h2 : strLt y z = true) : strLt x z = true := by
 rw [strLt_iff, decide_eq_true_eq] at *;exact List.lt_trans h1 h2
theorem lt_tri : ∀ {x y : Str}, strLt x y = false → strLt y x = false → x = y
 | [], [], _, _ => rfl
 | [], b :: y, h, _ => by simp [strLt, Op.bytesLess] at h
 | a :: x, [], _, h => by simp [strLt, Op.bytesLess] at h
 | a :: x, b :: y, h1, h2 => by
  simp only [strLt, Op.bytesLess, Bool.or_eq_false_iff, decide_eq_false_iff_not, Bool.and_eq_false_iff, beq_eq_false_iff_ne] at h1 h2;obtain ⟨p1, p2⟩ := h1;obtain ⟨q1, q2⟩ := h2;have e : a = b := by
   rw [UInt8.lt_iff_toNat_lt] at p1 q1;exact UInt8.toNat_inj.1 oM
  subst e;have r1 := p2.resolve_left (fun h => h rfl);have r2 := q2.resolve_left (fun h => h rfl);rw [lt_tri (x := x) (y := y) r1 r2]
def SS (l : List Str) : Prop := l.Pairwise fun a b => strLt a b = true
theorem SS_ext : ∀ (l1 l2 : List Str), SS l1 → SS l2 → (∀ x, x ∈ l1 ↔ x ∈ l2) → l1 = l2
 | [], [], _, _, _ => rfl
 | [], b :: s, _, _, h => by have := (h b).2 List.mem_cons_self; cases this
 | a :: r, [], _, _, h => by have := (h a).1 List.mem_cons_self; cases this
 | a :: r, b :: s, h1, h2, h => by
  obtain ⟨a1, a2⟩ := List.pairwise_cons.1 h1;obtain ⟨b1, b2⟩ := List.pairwise_cons.1 h2;have e : a = b := by
   rcases List.mem_cons.1 ((h a).1 List.mem_cons_self) with e | e
   ·exact e
   ·rcases List.mem_cons.1 ((h b).2 List.mem_cons_self) with e' | e'
    ·exact e'.symm
    ·have := lt_tr (b1 a e) (a1 b e');rw [lt_irr] at this;cases this
  subst e;rw [SS_ext r s a2 b2 fun x => ⟨fun hx => ?_, fun hx => ?_⟩]
  ·rcases List.mem_cons.1 ((h x).1 (List.mem_cons_of_mem _ hx)) with e | e
   ·subst e; have := a1 x hx; rw [lt_irr] at this; cases this
   ·exact e
  ·rcases List.mem_cons.1 ((h x).2 (List.mem_cons_of_mem _ hx)) with e | e
   ·subst e; have := b1 x hx; rw [lt_irr] at this; cases this
   ·exact e
def ins : List Str → Str → List Str
 | [], x => [x]
 | y :: r, x => if strLt y x then y :: ins r x else if y = x then y :: r else x :: y :: r
theorem insOne_eq : ∀ (l : List Str) (x : Str), insOne l x = ins l x
 | [], x => by simp [insOne, ins, posS]
 | y :: r, x => by
  have ih := insOne_eq r x;simp only [ins];by_cases h : strLt y x = true
  ·rw [if_pos h, ← ih];unfold insOne;simp only [posS, h, if_true, List.getElem?_cons_succ, List.take_succ_cons, List.drop_succ_cons];split <;> rfl
  ·rw [if_neg h];unfold insOne;simp only [posS, if_neg h, List.getElem?_cons_zero, Option.some.injEq, List.take_zero, List.drop_zero, List.nil_append]
theorem mem_ins : ∀ (l : List Str) (x z : Str), z ∈ ins l x ↔ z = x ∨ z ∈ l
 | [], x, z => by simp [ins]
 | y :: r, x, z => by
  simp only [ins];split
  ·rw [List.mem_cons, mem_ins r x z, List.mem_cons];constructor
   ·rintro (h | h | h)
    ·exact .inr (.inl h)
    ·exact .inl h
    ·exact .inr (.inr h)
   ·rintro (h | h | h)
    ·exact .inr (.inl h)
    ·exact .inl h
    ·exact .inr (.inr h)
  ·split
   ·rename_i e;subst e;constructor
    ·exact .inr
    ·rintro (h | h)
     ·rw [h]; exact List.mem_cons_self
     ·exact h
   ·exact List.mem_cons
theorem SS_ins : ∀ (l : List Str) (x : Str), SS l → SS (ins l x)
 | [], x, _ => List.pairwise_singleton _ _
 | y :: r, x, h => by
  obtain ⟨h1, h2⟩ := List.pairwise_cons.1 h;simp only [ins];split
  ·rename_i hy;refine List.pairwise_cons.2 ⟨fun z hz => ?_, SS_ins r x h2⟩;rcases (mem_ins r x z).1 hz with e | e
   ·rw [e]; exact hy
   ·exact h1 z e
  ·rename_i hy;split
   ·exact h
   ·rename_i hne;have hxy : strLt x y = true := by
     cases hb : strLt x y with
     | true => rfl
     | false => exact absurd (lt_tri (sX hy) hb) hne
    refine List.pairwise_cons.2 ⟨fun z hz => ?_, h⟩;rcases List.mem_cons.1 hz with e | e
    ·rw [e]; exact hxy
    ·exact lt_tr hxy (h1 z e)
theorem foldl_spec : ∀ (xs l : List Str), SS l → SS (xs.foldl insOne l) ∧ ∀ z, z ∈ xs.foldl insOne l ↔ z ∈ l ∨ z ∈ xs
 | [], l, h => ⟨h, fun z => by simp⟩
 | x :: r, l, h => by
  rw [List.foldl_cons, insOne_eq];obtain ⟨h1, h2⟩ := foldl_spec r (ins l x) (SS_ins l x h);refine ⟨h1, fun z => ?_⟩;rw [h2, mem_ins, List.mem_cons];constructor
  ·rintro ((h | h) | h)
   ·exact .inr (.inl h)
   ·exact .inl h
   ·exact .inr (.inr h)
  ·rintro (h | h | h)
   ·exact .inl (.inr h)
   ·exact .inl (.inl h)
   ·exact .inr h
theorem insS_spec (xs : List Str) : SS (insS xs) ∧ ∀ z, z ∈ insS xs ↔ z ∈ xs := by
 obtain ⟨h1, h2⟩ := foldl_spec xs [] List.Pairwise.nil;exact ⟨h1, fun z => by rw [insS, h2]; simp⟩
theorem sortS_le (l : List Str) : (sortS l).Pairwise fun a b => strLt b a = false := by
 have := List.pairwise_mergeSort (le := fun x y : Str => decide (x ≤ y)) (fun a b c h1 h2 => ?_) (fun a b => ?_) l
 ·refine this.imp ?_;intro a b h;rw [strLt_iff];simpa using h
 ·simp only [decide_eq_true_eq] at *;exact List.le_trans h1 h2
 ·have := List.le_total a b;simpa using this
theorem uniqF_spec : ∀ (l : List Str) (p : Option Str), (l.Pairwise fun a b => strLt b a = false) → (∀ q, p = some q → ∀ x ∈ l, strLt x q = false) →
  SS (uniqF p l) ∧ (∀ q, p = some q → ∀ x ∈ uniqF p l, strLt q x = true) ∧ ∀ z, (z ∈ uniqF p l ∨ p = some z) ↔ (z ∈ l ∨ p = some z)
 | [], p, _, _ => ⟨List.Pairwise.nil, by simp [uniqF], fun z => by simp [uniqF]⟩
 | x :: r, p, h, hp => by
  obtain ⟨h1, h2⟩ := List.pairwise_cons.1 h;obtain ⟨i1, i2, i3⟩ := uniqF_spec r (some x) h2 (fun q e y hy => by cases e; exact h1 y hy);simp only [uniqF];split
  ·rename_i e;subst e;refine ⟨i1, fun q e y hy => i2 q e y hy, fun z => ?_⟩;rw [i3];simp only [Option.some.injEq, List.mem_cons];constructor
   ·rintro (h | h)
    ·exact .inl (.inr h)
    ·exact .inr h
   ·rintro ((h | h) | h)
    ·exact .inr h.symm
    ·exact .inl h
    ·exact .inr h
  ·rename_i hne;refine ⟨List.pairwise_cons.2 ⟨fun y hy => i2 x rfl y hy, i1⟩, ?_, fun z => ?_⟩
   ·rintro q rfl y hy;have hqx : strLt q x = true := by
     cases hb : strLt q x with
     | true => rfl
     | false => exact absurd (congrArg some (lt_tri hb (hp q rfl x List.mem_cons_self))) hne
    rcases List.mem_cons.1 hy with e | e
    ·rw [e]; exact hqx
    ·exact lt_tr hqx (i2 x rfl y e)
   ·have := i3 z;simp only [Option.some.injEq] at this;simp only [List.mem_cons];constructor
    ·rintro ((h | h) | h)
     ·exact .inl (.inl h)
     ·rcases this.1 (.inl h) with h | h
      ·exact .inl (.inr h)
      ·exact .inl (.inl h.symm)
     ·exact .inr h
    ·rintro ((h | h) | h)
     ·exact .inl (.inl h)
     ·rcases this.2 (.inl h) with h | h
      ·exact .inl (.inr h)
      ·exact .inl (.inl h.symm)
     ·exact .inr h
theorem uniq_sort (l : List Str) : uniq (sortS l) = insS l := by
 obtain ⟨h1, _, h3⟩ := uniqF_spec (sortS l) none (sortS_le l) (fun q e => by cases e);obtain ⟨g1, g2⟩ := insS_spec l;refine SS_ext _ _ h1 g1 fun x => ?_
 have := h3 x;simp only [reduceCtorEq, or_false] at this;rw [uniq, this, g2];exact (sortS_perm l).mem_iff
def insE (n : Str) (x v : Val) : Val × Int := if decide (((v.fields.length : Nat) : Int) ≥ 64) then (zeroV, 9) else (insV n x v, 0)
def addE (p : Part) (x v : Val) : Val × Int := if p.kind != 1 then (zeroV, 19) else insE p.name x v
def setE (x : Val) : List Part → Val → Val × Int
 | [], v => (v, 0)
 | [p], v => if !appP p v then (zeroV, 22) else if ledP p v = [] then addE p x v else (repV p x v, 0)
 | p :: q :: r, v => if !appP p v then (zeroV, 22) else if (setE x (q :: r) ((ledP p v)[0]?.getD zeroV)).2 ≠ 0 then (zeroV, (setE x (q :: r) ((ledP p v)[0]?.getD zeroV)).2) else (repV p (setE x (q :: r) ((ledP p v)[0]?.getD zeroV)).1 v, 0)
def rchP : List Part → Val → Prop
 | p :: q :: r, v => appP p v = true → ∃ y, ledP p v = [y] ∧ rchP (q :: r) y
 | _, _ => True
def setS (v : Val) (l : List Part) (x : Val) : Val × Int := if (chkP l != 0) || evP l then (zeroV, 3) else setE x l v
theorem setE_R {x : Val} : ∀ {l : List Part} {v : Val}, l ≠ [] → rchP l v → (setE x l v).2 = 0 → setR x l v (setE x l v).1
 | [], _, h, _, _ => absurd rfl h
 | [p], v, _, _, h => by
  simp only [setE] at h ⊢;split at h
  ·cases h
  rename_i ha;have ha : appP p v = true := sX ha;simp only [ha, Bool.not_true, Bool.false_eq_true, if_false] at h ⊢;split at h
  ·rename_i hl;rw [if_pos hl];refine ⟨ha, .inl ⟨hl, ?_⟩⟩;unfold addE at h ⊢;split at h
   ·cases h
   rename_i hk;rw [if_neg hk];unfold insE at h ⊢;split at h
   ·cases h
   rename_i hf;rw [if_neg hf];exact ⟨by simpa using hk, rfl⟩
  ·rename_i hl;rw [if_neg hl];exact ⟨ha, .inr ⟨hl, rfl⟩⟩
 | p :: q :: r, v, _, hr, h => by
  simp only [setE] at h ⊢;split at h
  ·cases h
  rename_i ha;have ha : appP p v = true := sX ha;obtain ⟨y, hy, hr2⟩ := hr ha;simp only [ha, hy, Bool.not_true, Bool.false_eq_true, if_false, List.getElem?_cons_zero, Option.getD_some] at h ⊢;split at h
  ·rename_i hx; exact absurd h hx
  ·rename_i hx;rw [if_neg hx];exact ⟨ha, y, [], _, hy, setE_R (List.cons_ne_nil _ _) hr2 (sX hx), rfl⟩
theorem led_one {p : Part} {v : Val} (hp : validP p = true) (h3 : (p.kind == 3) = false) (ha : appP p v = true) : ledP p v = [] ∨ ∃ y, ledP p v = [y] := by
 obtain ⟨k1, k2, k3, k4⟩ := valid_kind hp;obtain ⟨a1, a2, a3⟩ := app_kind hp ha;rcases k1 with e | e | e | e
 ·rw [led_fld p v e];split
  ·exact .inr ⟨_, rfl⟩
  ·exact .inl rfl
 ·rw [led_ix p v e k3];cases h : v.list.drop p.index.toNat with
  | nil => exact .inl rfl
  | cons y t => exact .inr ⟨y, rfl⟩
 ·rw [e] at h3; cases h3
 ·rw [led_case p v e];split
  ·have := (a2 e).2
   match h : v.list, this with
   | [y], _ => exact .inr ⟨y, rfl⟩
  ·exact .inl rfl
theorem walkN_nil : ∀ l : List Part, walkN l [] = some []
 | [] => rfl
 | p :: r => by simp only [walkN, List.all_nil, if_true, List.flatMap_nil]; exact walkN_nil r
theorem rch_walk : ∀ (l : List Part) (v : Val) (now : List Val), (∀ p ∈ l, validP p = true ∧ (p.kind == 3) = false) → walkN l.dropLast [v] = some now → now ≠ [] → rchP l v
 | [], _, _, _, _, _ => trivial
 | [p], _, _, _, _, _ => trivial
 | p :: q :: r, v, now, hl, hw, hn => by
  intro ha;obtain ⟨hp, h3⟩ := hl p List.mem_cons_self;simp only [List.dropLast_cons_cons, walkN, List.all_cons, List.all_nil, ha, Bool.and_self, if_true, List.flatMap_cons, List.flatMap_nil, List.append_nil] at hw;rcases led_one hp h3 ha with h | ⟨y, h⟩
  ·rw [h, walkN_nil] at hw;cases hw;exact absurd rfl hn
  ·rw [h] at hw;exact ⟨y, h, rch_walk (q :: r) y now (fun p hp => hl p (List.mem_cons_of_mem _ hp)) hw hn⟩
theorem evP_false {l : List Part} (h : evP l = false) : ∀ p ∈ l, (p.kind == 3) = false := by
 intro p hp;unfold evP at h;rw [List.any_eq_false] at h;simpa using h p hp
theorem rch_get {l : List Part} {v : Val} (hv : ∀ p ∈ l, validP p = true) (he : evP l = false) (hg : 1 < l.length → (getV v l.dropLast).2 = 0) : rchP l v := by
 match l, hv, he, hg with
 | [], _, _, _ => exact trivial
 | [p], _, _, _ => exact trivial
 | p :: q :: r, hv, he, hg =>
  have h := hg sP;have h3 := evP_false he;have hed : evP (p :: q :: r).dropLast = false := by
   unfold evP;rw [List.any_eq_false];intro z hz;rw [h3 z (List.dropLast_subset _ hz)];exact Bool.false_ne_true
  unfold getV at h;split at h
  ·rename_i hx; simp at hx; exact absurd h hx
  ·rename_i hx;have hx : (findV v (p :: q :: r).dropLast).2 = 0 := sX hx;unfold findV at hx;split at hx
   ·rename_i hc; simp at hc; exact absurd hx hc
   ·cases hw : walkN (p :: q :: r).dropLast [v] with
    | none => rw [hw] at hx; cases hx
    | some now =>
     rw [hw] at hx;refine rch_walk _ v now (fun z hz => ⟨hv z hz, h3 z hz⟩) hw ?_;rintro rfl;have hed2 : evP (p :: (q :: r).dropLast) = false := hed;simp [findR, hed2] at hx
theorem mem_pathsE {e : Exp} (h : chkX e = 0) (s : Str) : s ∈ pathsE e ↔ s ∈ pF 8 e := by
 rw [pathsE, if_neg (sX h), uniq_sort];exact (insS_spec _).2 s
theorem agr_paths {env env2 : Val} : ∀ (k : Nat) (e : Exp), (∀ s ∈ pF k e, findV env (parseS s).1 = findV env2 (parseS s).1) → agr env env2 k e
 | 0, _, _ => trivial
 | k + 1, e, h => by
  refine ⟨fun hp => h _ ?_, fun p hp => agr_paths k p fun s hs => h s ?_⟩
  ·simp [pF, hp]
  ·simp only [pF, List.mem_append, List.mem_flatMap];exact .inr ⟨p, hp, hs⟩
theorem insF_eq (n : Str) (x : Val) : ∀ l : List Fld, insF n x l = l.take ((l.findIdx? fun f => gtB f.name n).getD l.length) ++ .mk n x :: l.drop ((l.findIdx? fun f => gtB f.name n).getD l.length)
 | [] => rfl
 | f :: r => by
  have ih := insF_eq n x r;simp only [insF, List.findIdx?_cons];split
  ·rename_i h; simp
  ·rename_i h;rw [ih];cases e : r.findIdx? (fun f => gtB f.name n) with
   | none => simp
   | some k => simp
theorem setF_eq (n : Str) (x : Val) : ∀ (l : List Fld) (k : Nat), l.findIdx? (fun f => f.name == n) = some k → setF n x l = l.set k (.mk ((l[k]?.map Fld.name).getD []) x)
 | [], k, h => by cases h
 | f :: r, k, h => by
  simp only [setF];rw [List.findIdx?_cons] at h;split at h
  ·rename_i hf;cases h;rw [if_pos hf];rfl
  ·rename_i hf;rw [if_neg hf];cases e : r.findIdx? (fun f => f.name == n) with
   | none => rw [e] at h; cases h
   | some j =>
    rw [e] at h;cases h;rw [setF_eq n x r j e];rfl
theorem walk81 (v x : Val) (n : Str) : PT 81 [encV v, .str n, encV x] (.tup [.d (encV (insE n x v).1), .d (.int .i64 (insE n x v).2)]) := by
 refine PCon.of_fits ok81.has fun hfit => ?_
 have hvl := (fits_V3 (hfit _ (List.mem_cons_self))).2.2;refine ok81.pc ?_;have c6 := CallOK.clo (ds := [.list 7 (v.fields.map encF)]) (cs := [.str n]) (h := walk160 (fun x => walk161 x n) v.fields oM) rfl 4;have c63 := call163 v.fields 25;have hins := insF_eq n x v.fields;have hJ : ixF (fun f => gtB f.name n) v.fields = match v.fields.findIdx? (fun f => gtB f.name n) with | some k => (k : Int) | none => -1 := rfl
 have hbd := ixF_bd (q := fun f => gtB f.name n) (l := v.fields);generalize hR : insE n x v = R;unfold insE at hR;rw [encV_eq v, encV_eq x, encV_eq R.1];simp only [go_sem, ir81, List.length_map, simprocAttr];apply ik <;> intro h
 ·rw [if_pos h] at hR;rw [← hR];rfl
 rw [if_neg (nF h)] at hR;simp only [decide_eq_false_iff_not] at h
 try refine zz ?_
 simp only [List.map_cons, List.map_nil, List.cons_append, List.nil_append] at c6;refine wn c6 ?_;generalize ixF (fun f => gtB f.name n) v.fields = J at *;obtain ⟨k, hk, hat⟩ : ∃ k : Nat, (v.fields.findIdx? (fun f => gtB f.name n)).getD v.fields.length = k ∧ (if decide (J < 0) = true then (v.fields.length : Int) else J) = (k : Nat) := by
  cases e : v.fields.findIdx? (fun f => gtB f.name n) with
  | none => rw [e] at hJ; subst hJ; exact ⟨v.fields.length, rfl, sP⟩
  | some k => rw [e] at hJ; subst hJ; exact ⟨k, rfl, sO⟩
 rw [hk] at hins;have hle : k ≤ v.fields.length := by split at hat <;> omega
 have c7 := ins_at 25 0 k (v.fields.map encF) (.agg [Dat.str n, Dat.int IntKind.i64 x.kind, Dat.int IntKind.i64 x.int, Dat.int IntKind.i64 x.scale, Dat.str x.text, Dat.list 6 (List.map encV x.list), Dat.list 7 (List.map encF x.fields)]) (sX hle) sO rfl;have hse : (v.fields.map encF).take k ++ (.agg [Dat.str n, Dat.int IntKind.i64 x.kind, Dat.int IntKind.i64 x.int, Dat.int IntKind.i64 x.scale, Dat.str x.text, Dat.list 6 (List.map encV x.list), Dat.list 7 (List.map encF x.fields)]) :: (v.fields.map encF).drop k = List.map encF (insF n x v.fields) := by
  rw [hins, List.map_append, List.map_cons, List.map_take, List.map_drop, encF_eq (.mk n x)];rfl
 rw [← hR];simp only [go_sem, insV, Val.kind, Val.int, Val.scale, Val.text, Val.list, Val.fields, List.length_map, simprocAttr];apply ik <;> intro h7
 ·rw [if_pos h7] at hat;rw [← hat] at c7
  try refine zz7 ?_
  refine wpsL_call rfl c63 ⟨rfl, trivial⟩ ?_;refine zz ?_;refine ⟨sP, wpsL_call rfl c7 ⟨rfl, trivial⟩ ?_⟩;refine zz ?_;rw [hse, canonL_flds];exact ⟨dC, rfl⟩
 ·rw [if_neg (nF h7)] at hat;rw [← hat] at c7
  try refine zz7 ?_
  refine wpsL_call rfl c63 ⟨rfl, trivial⟩ ?_;refine zz ?_;refine ⟨sP, wpsL_call rfl c7 ⟨rfl, trivial⟩ ?_⟩;refine zz ?_;rw [hse, canonL_flds];exact ⟨dC, rfl⟩
theorem encV_mk (k i s : Int) (t : Str) (l : List Val) (f : List Fld) : encV (.mk k i s t l f) = .agg [.int .i64 k, .int .i64 i, .int .i64 s, .str t, .list 6 (l.map encV), .list 7 (f.map encF)] := encV_eq _
theorem walk85 (p : Part) (v x : Val) (hne : ledP p v ≠ []) (hv : validP p = true) (h3 : p.kind ≠ 3) : PT 85 [encV v, encP p, encV x] (.d (encV (repV p x v))) := by
 refine PCon.of_fits ok85.has fun hfit => ?_
 have hvl := fits_V3 (hfit _ (List.mem_cons_self));refine ok85.pc ?_;obtain ⟨k1, k2, k3, k4⟩ := valid_kind hv;by_cases hk : p.kind = 1
 ·have c63 := call163 v.fields 12;have c64 := (walk164 v p.name hvl.2.2).call trivial;have hset := setF_eq p.name x v.fields;have hled := led_fld p v hk;have hI : ixN p.name v.fields = match v.fields.findIdx? (fun f => f.name == p.name) with | some k => (k : Int) | none => -1 := rfl
  have hfi := find_idx (fun f => f.name == p.name) v.fields;have hb : (p.kind == 1) = true := by simp [hk]
  have hR : repV p x v = .mk v.kind v.int v.scale v.text v.list (setF p.name x v.fields) := by unfold repV; rw [if_pos hb]
  rw [hR];cases e : v.fields.findIdx? (fun f => f.name == p.name) with
  | none =>
   exfalso;rw [e] at hfi
   rw [← hfi] at hled;exact hne hled
  | some k =>
   obtain ⟨hkl, _⟩ := List.findIdx?_eq_some_iff_getElem.1 e;rw [e] at hI;simp only at hI;have hI0 := hI;rw [hI] at c64;have hs := hset k e;rw [List.getElem?_eq_getElem hkl] at hs;simp only [Option.map_some, Option.getD_some] at hs;rw [hs];have hx := nth_encF hkl;rw [encV_eq v] at c64;rw [encV_eq v, encV_eq x, encV_mk];simp only [go_sem, ir85, encP, hb, simprocAttr];refine wc c63 ?_;have h64 : PT 164 ([encV v, .str p.name].map Dat.canon) (.d (.int .i64 (k : Int))) := by
    have := walk164 v p.name hvl.2.2;rw [hI0] at this;simpa only [List.map_cons, List.map_nil, canon_encV, Dat.canon] using this
   have c64' := PCon.borrow h64 rfl (args := [.agg [.d (.int .i64 v.kind), .d (.int .i64 v.int), .d (.int .i64 v.scale), .d (.str v.text), .d (.list 6 (v.list.map encV)), .ms 12 0], .d (.str p.name)])
    (T := [(12, some (.row 0 7 (v.fields.map encF)))]) (p := (True ∧ True ∧ True ∧ True ∧ True ∧ 0 = 0 ∧ True) ∧ True ∧ True) (u := [(12, .frz 0 7 (v.fields.map encF))]) (fun H hH => by
     have hi : H 12 = some (.row 0 7 (v.fields.map encF)) := hH _ (List.mem_cons_self);simp [datumAll, datum, datums, datum1, hputs, hi, encV_eq]) sP
   refine wpsL_call rfl c64' ⟨rfl, trivial⟩ ?_;refine zz40 ?_;have hse : (List.map encF v.fields).set k (Dat.agg [Dat.str v.fields[k].name, Dat.int IntKind.i64 x.kind, Dat.int IntKind.i64 x.int, Dat.int IntKind.i64 x.scale, Dat.str x.text, Dat.list 6 (List.map encV x.list), Dat.list 7 (List.map encF x.fields)]) = List.map encF (v.fields.set k (.mk v.fields[k].name x)) := by
    rw [List.map_set, encF_eq];rfl
   rw [hse, canonL_flds];exact ⟨⟨oM, oM⟩, dC, rfl⟩
 ·have c65 := call165 v.list 26;have hb : (p.kind == 1) = false := by simp [hk]
  have hR : repV p x v = .mk v.kind v.int v.scale v.text (v.list.set p.index.toNat x) v.fields := by unfold repV; rw [if_neg (nF hb)]
  have hlt : p.index.toNat < v.list.length := by
   rcases k1 with e | e | e | e
   ·exact absurd e hk
   ·rw [led_ix p v e k3] at hne;rcases Nat.lt_or_ge p.index.toNat v.list.length with h | h
    ·exact h
    ·rw [List.drop_eq_nil_of_le h] at hne; exact absurd rfl hne
   ·exact absurd e h3
   ·rw [led_case p v e] at hne;have : p.index = 0 := oM;split at hne
    ·cases hv : v.list with
     | nil => rw [hv] at hne; exact absurd rfl hne
     | cons a r => rw [this]; simp
    ·exact absurd rfl hne
  have hi : ((p.index.toNat : Nat) : Int) = p.index := oM;have hil : p.index < (v.list.length : Int) := oM;have hx := nth_encV hlt;rw [hR];rw [encV_eq v, encV_eq x, encV_mk];simp only [go_sem, ir85, encP, hb, simprocAttr];refine wn c65 ?_;simp only [go_sem, hx, List.length_map, simprocAttr];have hse : (List.map encV v.list).set p.index.toNat (Dat.agg [Dat.int IntKind.i64 x.kind, Dat.int IntKind.i64 x.int, Dat.int IntKind.i64 x.scale, Dat.str x.text, Dat.list 6 (List.map encV x.list), Dat.list 7 (List.map encF x.fields)]) = List.map encV (v.list.set p.index.toNat x) := by
   rw [List.map_set, encV_eq]
  rw [hse, canonL_vals];exact ⟨⟨k3, hil⟩, rfl⟩
theorem PCon.callClo2 {P : Program} {f g : Nat} {ds c1 c2 : List Dat} {r : Av} (h : PCon P f (ds ++ [.fn (.func g) [] [.ptr c1, .ptr c2]]) r) (hr : pureR r) (i j : Nat) (hij : i ≠ j) :
  CallOK P f (ds.map .d ++ [.clo (.func g) [] [.ref i 0, .ref j 0]]) [(i, some (.box (c1.map .d))), (j, some (.box (c2.map .d)))] r [(i, .fbox c1), (j, .fbox c2)] := by
 intro β A w H vs hT hc hvs;have hi : H i = some (.box (c1.map .d)) := hT (i, _) sP;have hj : H j = some (.box (c2.map .d)) := hT (j, _) sP;have st1 := Stp.freezeBox hc hi (allD_map c1);have hj1 : upd H i (some (.fbox c1)) j = some (.box (c2.map .d)) := by rw [upd_ne _ _ (Ne.symm hij)]; exact hj
 have st2 := Stp.freezeBox st1.core hj1 (allD_map c2);have st := st1.trans st2;have hlen : (ds.map Av.d).length = ds.length := sP;have hc' := h.call hr β _ w (upd (upd H i (some (.fbox c1))) j (some (.fbox c2))) vs sP st.core ⟨by have := hvs.1; simp at this ⊢; omega, fun k c v h1 h2 => by
  rw [List.getElem?_map] at h1;cases e : (ds ++ [Dat.fn (.func g) [] [.ptr c1, .ptr c2]])[k]? with
  | none => simp [e] at h1
  | some x =>
   simp only [e, Option.map_some, Option.some.injEq] at h1;subst h1;by_cases hk : k < ds.length
   ·rw [List.getElem?_append_left hk] at e;have := hvs.2 k (.d x) v (by rw [List.getElem?_append_left (sX hk), List.getElem?_map, e]; rfl) h2;exact st.vals _ _ this
   ·rw [List.getElem?_append_right oM] at e;have hk0 : k - ds.length = 0 := by
     rcases Nat.eq_zero_or_pos (k - ds.length) with h | h
     ·exact h
     ·rw [List.getElem?_eq_none sO] at e; cases e
    rw [hk0] at e;cases e;have := hvs.2 k (.clo (.func g) [] [.ref i 0, .ref j 0]) v (by rw [List.getElem?_append_right sO, hlen, hk0]; rfl) h2;have h3 := st.vals _ _ this;cases h3 with
    | clo _ _ _ a1 a2 l1 l2 hf hvv =>
     refine .d _ _ (.fn _ _ _ a1 a2 l1 (sX l2) (by intro j c v hj; cases hj) ?_);intro k c v hk hkv
     match k, hk with
     | 0, hk =>
      cases hk;have hrf := hvv 0 _ v rfl hkv;cases hrf with
      | ref _ _ _ _ _ hu g0 g1 g2 =>
       have := g2 c1 (by rw [upd_ne _ _ hij, upd_same]);simpa using this
     | 1, hk =>
      cases hk;have hrf := hvv 1 _ v rfl hkv;cases hrf with
      | ref _ _ _ _ _ hu g0 g1 g2 =>
       have := g2 c2 (upd_same _ _ _);simpa using this
     | k + 2, hk => cases hk⟩
 rcases hc' with ⟨a1, a2⟩ | ⟨u, w', a1, β', A', a2, a3⟩
 ·refine .inl ⟨a1, a2.mono ?_⟩;rintro e w' ⟨u, rfl, β', A', b1, b2⟩;exact ⟨u, rfl, β', A', st.trans b1, b2⟩
 ·exact .inr ⟨u, w', a1, β', A', st.trans a2, a3⟩
theorem walk79 (x : Val) : PT 79 [encV x] (.d (.fn (.func 80) [] [.ptr (encV x).cells])) := by
 refine ok79.pc ?_;rw [encV_eq];simp only [go_sem, ir79, simprocAttr];simp [go_sem]
theorem walk80 (v x : Val) (p : Part) : PT 80 [encV v, encP p, .ptr (encV x).cells] (.tup [.d (encV (addE p x v).1), .d (.int .i64 (addE p x v).2)]) := by
 refine ok80.pc ?_;have c81 := (walk81 v x p.name).call (by simp [pureR]);generalize hR : addE p x v = R;unfold addE at hR;generalize insE p.name x v = I at *;rw [encV_eq v, encV_eq x, encV_eq I.1] at c81;rw [encV_eq v, encV_eq x, encV_eq R.1];simp only [go_sem, ir80, encP, Dat.cells, simprocAttr];apply ik <;> intro h
 ·rw [if_pos h] at hR;rw [← hR];rfl
 rw [if_neg (nF h)] at hR;subst hR
 try simp only [go_sem, List.take, List.length_cons, List.length_nil, simprocAttr]
 first | refine wn c81 ?_ | refine ⟨dC, wn c81 ?_⟩ | refine ⟨dC, dC, wn c81 ?_⟩
 exact zz trivial
abbrev clo83 (x : Val) : Dat := .fn (.func 83) [] [.ptr [.fn (.func 79) [] []], .ptr (encV x).cells]
abbrev clo80 (x : Val) : Dat := .fn (.func 80) [] [.ptr (encV x).cells]
def lastE (p : Part) (x v : Val) : Val × Int := if ledP p v = [] then addE p x v else (repV p x v, 0)
theorem walk83 (v x : Val) (p : Part) (hv : validP p = true) (h3 : p.kind ≠ 3) : PT 83 [encV v, encP p, .ptr [.fn (.func 79) [] []], .ptr (encV x).cells] (.tup [.d (encV (lastE p x v).1), .d (.int .i64 (lastE p x v).2)]) := by
 refine PCon.of_fits ok83.has fun hfit => ?_
 have hvl := fits_V3 (hfit _ (List.mem_cons_self));refine ok83.pc ?_;have c84 := (walk84 p v hvl.2.2 hvl.2.1 (valid_kind hv).2.2.1).call trivial;have c79 := (walk79 x).call trivial;have c80 := (walk80 v x p).call (by simp [pureR]);have c85 : ledP p v ≠ [] → _ := fun h => (walk85 p v x h hv h3).call trivial
 generalize hR : lastE p x v = R;unfold lastE at hR;generalize addE p x v = I at *;generalize repV p x v = Q at *;rw [encV_eq v] at c84;rw [encV_eq x] at c79;rw [encV_eq v, encV_eq x, encV_eq I.1] at c80;rw [encV_eq v, encV_eq x, encV_eq Q] at c85;rw [encV_eq v, encV_eq x, encV_eq R.1];simp only [encP, Dat.cells] at c79 c80 c84 c85;simp only [go_sem, ir83, encP, Dat.cells, Nat.reduceAdd, Nat.reduceEqDiff, Nat.reduceBEq, Nat.reduceLeDiff, reduceCtorEq, ↓reduceIte];refine wn c84 ?_;refine zz7 ?_;apply ik <;> intro h
 ·have h : ledP p v = [] := List.length_eq_zero_iff.1 (by simpa using h);rw [if_pos h] at hR;subst hR
  try simp only [go_sem, List.take, List.length_cons, List.length_nil, Nat.reduceAdd, Nat.reduceEqDiff, Nat.reduceBEq, Nat.reduceLeDiff, reduceCtorEq, ↓reduceIte]
  first | refine ⟨by decide, wpsL_call rfl c79 trivial ?_⟩ | refine ⟨by decide, by decide, wpsL_call rfl c79 trivial ?_⟩
  refine zz ?_;refine wpsL_call rfl c80 trivial ?_;refine zz ?_
  first | done | exact ⟨by decide, rfl⟩ | rfl
 ·have h : ledP p v ≠ [] := by
   intro e;rw [e] at h;simp at h
  rw [if_neg h] at hR;subst hR
  try simp only [go_sem, List.take, List.length_cons, List.length_nil, Nat.reduceAdd, Nat.reduceEqDiff, Nat.reduceBEq, Nat.reduceLeDiff, reduceCtorEq, ↓reduceIte]
  first | refine wn (c85 h) ?_ | refine ⟨by decide, wn (c85 h) ?_⟩
  exact zz trivial
theorem walk82 (x : Val) : ∀ (l : List Part) (v : Val), l ≠ [] → (∀ p ∈ l, validP p = true ∧ p.kind ≠ 3) → rchP l v →
  PT 82 [encV v, .list 3 (l.map encP), clo80 (.mk 9 0 0 [] [] []), clo83 x] (.tup [.d (encV (setE x l v).1), .d (.int .i64 (setE x l v).2)])
 | [], _, h, _, _ => absurd rfl h
 | p :: q, v, _, hl, hr => by
  obtain ⟨hv, h3⟩ := hl p List.mem_cons_self;refine PCon.of_fits ok82.has fun hfit => ?_
  have hvl := fits_V3 (hfit _ (List.mem_cons_self));have hll : (p :: q).length ≤ 68719476736 := by
   have := hfit (.list 3 ((p :: q).map encP)) sP;simp only [fits, List.length_map] at this;exact this.1
  refine ok82.pc ?_;have c156 := (walk156 p v).call trivial;have c83 := (walk83 v x p hv h3).call (by simp [pureR]);have c84 := (walk84 p v hvl.2.2 hvl.2.1 (valid_kind hv).2.2.1).call trivial;have e0 : Int.toNat 0 = 0 := rfl;obtain ⟨PS, hPS⟩ : ∃ PS, PS = (p :: q).map encP := ⟨_, rfl⟩;have hx0 : nth PS 0 = .agg [.int .i64 p.kind, .int .i64 p.index, .str p.name] := by rw [hPS]; rfl
  have hlen : PS.length = q.length + 1 := by rw [hPS]; simp
  have hslc : (PS.drop (Int.toNat 1)).take ((PS.length : Int) - 1).toNat = q.map encP := by
   have : ((PS.length : Int) - 1).toNat = q.length := oM;rw [this, hPS];show (q.map encP).take q.length = _;exact List.take_of_length_le sP
  obtain ⟨X, hX⟩ : ∃ X, X = (encV x).cells := ⟨_, rfl⟩;have e83 : clo83 x = .fn (.func 83) [] [.ptr [.fn (.func 79) [] []], .ptr X] := by rw [hX]
  rw [← hPS, e83];rw [← hX] at c83;generalize hR : setE x (p :: q) v = R;rw [encV_eq v] at c156 c83 c84;simp only [encP] at c156 c83 c84;cases q with
  | nil =>
   have hb : ((PS.length : Int) == 1) = true := by rw [hlen]; rfl
   rw [setE] at hR;have hR2 : (if (!appP p v) = true then ((zeroV, 22) : Val × Int) else lastE p x v) = R := hR;clear hR hPS;generalize lastE p x v = L at *;rw [encV_eq L.1] at c83;rw [encV_eq v, encV_eq R.1]
   try simp only [encV_mk, Dat.cells, List.map_nil]
   simp only [go_sem, ir82, hx0, e0, Nat.reduceAdd, Nat.reduceEqDiff, Nat.reduceBEq, Nat.reduceLeDiff, reduceCtorEq, ↓reduceIte];refine ⟨oM, wn c156 ?_⟩;refine zz ?_;refine ⟨fun h => ?_, fun h => ?_⟩
   ·rw [if_pos h] at hR2;rw [← hR2];rfl
   rw [if_neg (nF h)] at hR2;subst hR2;simp only [go_sem, hb, Nat.reduceAdd, Nat.reduceEqDiff, Nat.reduceBEq, Nat.reduceLeDiff, reduceCtorEq, ↓reduceIte];refine wc c83 trivial
  | cons p2 r =>
   have hb : ((PS.length : Int) == 1) = false := by rw [hlen]; simp; omega
   simp only [setE] at hR;by_cases ha : appP p v = true
   ·obtain ⟨y, hy, hr2⟩ := hr ha;have ih := (walk82 x (p2 :: r) y (List.cons_ne_nil _ _) (fun z hz => hl z (List.mem_cons_of_mem _ hz)) hr2).call (by simp [pureR]);have c85 : ∀ z, _ := fun z => (walk85 p v z (by rw [hy]; exact List.cons_ne_nil _ _) hv h3).call trivial
    simp only [hy, List.getElem?_cons_zero, Option.getD_some] at hR;rw [hy] at c84;have hy0 : nth [encV y] 0 = .agg [.int .i64 y.kind, .int .i64 y.int, .int .i64 y.scale, .str y.text, .list 6 (y.list.map encV), .list 7 (y.fields.map encF)] := by rw [← encV_eq]; rfl
    simp only [ha, Bool.not_true, Bool.false_eq_true, if_false] at hR;have hb1 : ((([encV y] : List Dat).length : Int) == 0) = false := rfl;clear hPS;generalize setE x (p2 :: r) y = S at *;have c85s := c85 S.1;generalize repV p S.1 v = Q at *;rw [encV_eq y, encV_eq S.1, e83] at ih;rw [encV_eq v, encV_eq S.1, encV_eq Q] at c85s;simp only [encP] at c85s;rw [encV_eq v, encV_eq R.1]
    try simp only [encV_mk, Dat.cells, List.map_nil] at ih ⊢
    rw [ha] at c156;rw [show List.map encV [y] = [encV y] from rfl] at c84;generalize hYL : [encV y] = YL at *;have hYl : YL.length = 1 := by rw [← hYL]; rfl
    simp only [go_sem, ir82, hx0, e0, Nat.reduceAdd, Nat.reduceEqDiff, Nat.reduceBEq, Nat.reduceLeDiff, reduceCtorEq, ↓reduceIte];refine ⟨oM, wn c156 ?_⟩;simp only [go_sem, hb, Bool.not_true, Nat.reduceAdd, Nat.reduceEqDiff, Nat.reduceBEq, Nat.reduceLeDiff, reduceCtorEq, ↓reduceIte];refine wn c84 ?_;simp only [go_sem, hb1, hy0, hslc, e0, Nat.reduceAdd, Nat.reduceEqDiff, Nat.reduceBEq, Nat.reduceLeDiff, reduceCtorEq, ↓reduceIte];refine ⟨oM, ⟨oM, oM⟩, wpsL_call rfl ih trivial ?_⟩;refine zz ?_;refine ⟨dC, fun h => ?_, fun h => ?_⟩
    ·rw [if_pos (sX h)] at hR;rw [← hR];rfl
    ·rw [if_neg (sX h)] at hR;rw [← hR]
     try refine zz ?_
     refine wc c85s trivial
   ·have ha : appP p v = false := sX ha;simp only [ha, Bool.not_false, if_true] at hR;subst hR;clear hPS;rw [encV_eq v]
    try simp only [encV_mk, Dat.cells, List.map_nil]
    rw [ha] at c156;simp only [go_sem, ir82, hx0, e0, Nat.reduceAdd, Nat.reduceEqDiff, Nat.reduceBEq, Nat.reduceLeDiff, reduceCtorEq, ↓reduceIte];refine ⟨oM, wn c156 ?_⟩;refine zz58 ?_;rfl
theorem chkP_nil : chkP [] = 3 := rfl
theorem walk29 (v x : Val) (l : List Part) (hl : l.length ≤ 68719476736) (hn : ∀ p ∈ l, p.name.length ≤ 68719476736) (hr : chkP l = 0 → evP l = false → rchP l v) :
  PT 29 [encV v, .list 3 (l.map encP), encV x] (.tup [.d (encV (setS v l x).1), .d (.int .i64 (setS v l x).2)]) := by
 refine ok29.pc ?_;have c78 := (walk78 l hl hn).call trivial;have c77 := (walk77 l hl).call trivial;generalize hR : setS v l x = R;unfold setS at hR;have hok := @chkP_ok l;have hev := @evP_false l;have h82 := walk82 x l v;have c79 := (walk79 (.mk 9 0 0 [] [] [])).call trivial;rw [encV_mk] at c79;rw [encV_eq v, encV_eq x, encV_eq R.1];simp only [go_sem, ir29, simprocAttr];refine wc c78 ?_;refine sq (evP l) ?_ ?_
 ·refine zz ?_;refine wc c77 trivial
 refine zz ?_;apply ik <;> intro h
 ·rw [if_pos h] at hR;rw [← hR];rfl
 rw [if_neg (nF h)] at hR;simp only [Bool.or_eq_false_iff] at h;obtain ⟨h1, h2⟩ := h;have hc0 : chkP l = 0 := sX h1;have hne : l ≠ [] := by rintro rfl; rw [chkP_nil] at hc0; cases hc0
 have h82 := h82 hne (fun p hp => ⟨(hok h1).2 p hp, by have := hev h2 p hp; simpa using this⟩) (hr hc0 h2);rw [hR] at h82;have c54 := (p54 R.1).call trivial;have c82 := PCon.callClo2 (f := 82) (ds := [encV v, .list 3 (l.map encP), clo80 (.mk 9 0 0 [] [] [])]) (c1 := [.fn (.func 79) [] []]) (c2 := (encV x).cells) h82 (by simp [pureR]) 8 5 dC;rw [encV_eq R.1] at c82 c54;rw [encV_eq v] at c82;simp only [encV_eq x, encV_mk, Dat.cells, List.map_cons, List.map_nil, List.cons_append, List.nil_append] at c82
 try refine zz ?_
 refine wpsL_pcall rfl c79 ?_;simp only [go_sem, encV_mk, Dat.cells, List.map_nil, simprocAttr];refine wpsL_call rfl c82 ⟨rfl, rfl, trivial⟩ ?_;refine zz ?_;refine ⟨dC, ?_⟩;refine wc c54 trivial
theorem touch_step {a b : List Part} {k : Nat} (h1 : k < a.length) (h2 : k < b.length) : touch (a.drop k) (b.drop k) = if !parEq a[k] b[k] && !evAI a[k] b[k] then false else touch (a.drop (k + 1)) (b.drop (k + 1)) := by
 rw [List.drop_eq_getElem_cons h1, List.drop_eq_getElem_cons h2];rfl
theorem touch_end {a b : List Part} {k : Nat} (h : ¬ (k < a.length ∧ k < b.length)) : touch (a.drop k) (b.drop k) = true := by
 rcases Nat.lt_or_ge k a.length with h1 | h1
 ·have : b.drop k = [] := List.drop_eq_nil_of_le oM;rw [this, touch_nil]
 ·have : a.drop k = [] := List.drop_eq_nil_of_le h1;rw [this];cases b.drop k <;> rfl
theorem walk32 (a b : List Part) (ha : a.length ≤ 68719476736) (hb : b.length ≤ 68719476736) : PT 32 [.list 3 (a.map encP), .list 3 (b.map encP)] (.d (.bool (touch a b))) := by
 refine ok32.pc ?_;simp only [go_sem, ir32, Nat.reduceAdd, Nat.reduceEqDiff, Nat.reduceBEq, Nat.reduceLeDiff, reduceCtorEq, ↓reduceIte];refine wpc_loop (fun n s => ∃ k : Nat, k ≤ a.length ∧ n = a.length - k ∧ touch a b = touch (a.drop k) (b.drop k) ∧
  s = ⟨[(0, .d (.list 3 (a.map encP))), (1, .d (.list 3 (b.map encP))), (5, .d (.int .i64 k))], []⟩) ?_ ?_
 ·exact ⟨_, _, Wk.less (by simp [go_sem]), 0, Nat.zero_le _, rfl, rfl, rfl⟩
 ·rintro n s ⟨k, hk, rfl, hinv, rfl⟩;refine zz7 ?_;refine sq (decide ((k : Int) < (b.length : Int))) ?_ ?_
  ·exact zz7 trivial
  refine zz ?_;apply ik <;> intro h
  ·simp only [Bool.and_eq_true, decide_eq_true_eq] at h;have h1 : k < a.length := by omega
   have h2 : k < b.length := by omega
   have hx := nth_encP h1;have hy := nth_encP h2;rw [touch_step h1 h2] at hinv;have hpe : ∀ p q : Part, parEq p q = ((p.kind == q.kind) && ((p.index == q.index) && ((p.name == q.name) && true))) := fun p q => by simp [parEq]
   generalize a[k] = p at *;generalize b[k] = q at *
   try simp only [go_sem, hx, hy, Int.toNat_natCast, List.length_map, Nat.reduceAdd, Nat.reduceEqDiff, Nat.reduceBEq, Nat.reduceLeDiff, reduceCtorEq, ↓reduceIte]
   refine ⟨⟨by omega, by omega⟩, by decide, scQ_pure (q.kind == 2) (fun _ => ?_) ?_⟩
   ·simp only [go_sem, hy, Int.toNat_natCast, List.length_map, Nat.reduceAdd, Nat.reduceEqDiff, Nat.reduceBEq, Nat.reduceLeDiff, reduceCtorEq, ↓reduceIte];exact ⟨⟨by omega, by omega⟩, by decide⟩
   refine zz ?_;refine sq ((p.kind == 2) && (q.kind == 3)) ?_ ?_
   ·refine zz40 ?_;refine ⟨⟨by omega, by omega⟩, by decide, scQ_pure (q.kind == 3) (fun _ => ?_) ?_⟩
    ·simp only [go_sem, hy, Int.toNat_natCast, List.length_map, Nat.reduceAdd, Nat.reduceEqDiff, Nat.reduceBEq, Nat.reduceLeDiff, reduceCtorEq, ↓reduceIte];exact ⟨⟨by omega, by omega⟩, by decide⟩
    exact zz trivial
   simp only [go_sem, hx, hy, Int.toNat_natCast, List.length_map, Nat.reduceAdd, Nat.reduceEqDiff, Nat.reduceBEq, Nat.reduceLeDiff, reduceCtorEq, ↓reduceIte];refine ⟨⟨by omega, by omega⟩, ⟨by omega, by omega⟩, scQ_pure (!evAI p q) (fun _ => ?_) ?_⟩
   ·simp only [go_sem, evAI, Nat.reduceAdd, Nat.reduceEqDiff, Nat.reduceBEq, Nat.reduceLeDiff, reduceCtorEq, ↓reduceIte]
   refine zz ?_;apply ik <;> intro h3
   ·rw [hinv, if_pos (by rw [hpe]; exact h3)]
    try simp only [go_sem, Nat.reduceAdd, Nat.reduceEqDiff, Nat.reduceBEq, Nat.reduceLeDiff, reduceCtorEq, ↓reduceIte]
   ·rw [if_neg (by rw [hpe, h3]; exact Bool.false_ne_true)] at hinv;refine ⟨a.length - (k + 1), _, by omega, Wk.less ?_, k + 1, by omega, rfl, hinv, rfl⟩;exact zz10 trivial
  ·have hn : ¬ (k < a.length ∧ k < b.length) := by
    rintro ⟨h1, h2⟩;simp at h;omega
   rw [hinv, touch_end hn]
   try simp only [go_sem, Nat.reduceAdd, Nat.reduceEqDiff, Nat.reduceBEq, Nat.reduceLeDiff, reduceCtorEq, ↓reduceIte]
theorem tof_all (hrep : Rep0) (v : Val) (x : Int) : ∃ (w : Val) (y : Int), (∀ env, MCon 273 [encV v] env x (.d (encV w)) y) ∧ w.list = [] ∧ w.fields = [] ∧ w.text.length ≤ v.text.length + 1000 := by
 have cf := fun (env : Val) y => (walk190 env x y).to trivial
 by_cases hk : v.kind = 1
 ·have q0 : ((0 : Int) != 0) = false := rfl;have k1 : (v.kind == 1) = true := by simp [hk]
  have k2 : (v.kind == 2) = false := by simp [hk]
  have k3 : (v.kind == 3) = false := by simp [hk]
  have k4 : (v.kind == 4) = false := by simp [hk]
  have k6 : (v.kind == 6) = false := by simp [hk]
  have k7 : (v.kind == 7) = false := by simp [hk]
  have c338 := (walk338 (v.int == 1)).call trivial;have hsl : ((boolS (v.int == 1))).length ≤ v.text.length + 1000 := by have := boolS_len (v.int == 1); omega
  refine ⟨(resT (boolS (v.int == 1)) 0 x).1, (resT (boolS (v.int == 1)) 0 x).2, ?_, (resT_flat _ _ _).1, (resT_flat _ _ _).2, Nat.le_trans (resT_len _ _ _) hsl⟩;intro env;refine ok273.co (k := false) (mO_closed _ _ _) trivial ?_;rw [encV_eq v];simp only [go_sem, mC, ir273, k1, k2, k3, k4, k6, k7, q0, List.map_cons, List.map_nil, simprocAttr];refine wn c338 ?_;refine zz36 ?_;have hr : resT (boolS (v.int == 1)) 0 x = (.mk 4 0 0 (boolS (v.int == 1)) [] [], x) := rfl;rw [hr];have c216 := (walk216 (boolS (v.int == 1))).call trivial
  try refine zz1 ?_
  refine wn c216 ?_;rw [encV_eq];refine zz1 ?_;exact zf
 by_cases hk : v.kind = 2
 ·have q0 : ((0 : Int) != 0) = false := rfl;have k1 : (v.kind == 1) = false := by simp [hk]
  have k2 : (v.kind == 2) = true := by simp [hk]
  have k3 : (v.kind == 3) = false := by simp [hk]
  have k4 : (v.kind == 4) = false := by simp [hk]
  have k6 : (v.kind == 6) = false := by simp [hk]
  have k7 : (v.kind == 7) = false := by simp [hk]
  have c263 := (walk263 v).call trivial;rw [encV_eq v] at c263;have c339 := (walk339 hrep (ofN v)).call (by simp [pureR]);simp only [encN] at c263 c339;have hxl := txtR_len (ofN v);generalize txtR (ofN v) = X at *;have hsl : (X.1).length ≤ v.text.length + 1000 := oM;refine ⟨(resT X.1 X.2 x).1, (resT X.1 X.2 x).2, ?_, (resT_flat _ _ _).1, (resT_flat _ _ _).2, Nat.le_trans (resT_len _ _ _) hsl⟩;intro env;refine ok273.co (k := false) (mO_closed _ _ _) trivial ?_;rw [encV_eq v];simp only [go_sem, mC, ir273, k1, k2, k3, k4, k6, k7, q0, List.map_cons, List.map_nil, simprocAttr];refine wn c263 ?_;refine zz36 ?_;refine wn c339 ?_;refine zz36 ?_;apply ik <;> intro h
  ·have hr : resT X.1 X.2 x = (zeroV, failE x X.2) := by unfold resT; rw [if_pos h]
   rw [hr];refine wn (cf env X.2) ?_;generalize zeroV = z at *;rw [encV_eq];refine zz1 ?_;exact zf
  ·have hr : resT X.1 X.2 x = (.mk 4 0 0 X.1 [] [], x) := by unfold resT; rw [if_neg (nF h)]
   rw [hr];have c216 := (walk216 X.1).call trivial
   try refine zz1 ?_
   refine wn c216 ?_;rw [encV_eq];refine zz1 ?_;exact zf
 by_cases hk : v.kind = 3
 ·have q0 : ((0 : Int) != 0) = false := rfl;have k1 : (v.kind == 1) = false := by simp [hk]
  have k2 : (v.kind == 2) = false := by simp [hk]
  have k3 : (v.kind == 3) = true := by simp [hk]
  have k4 : (v.kind == 4) = false := by simp [hk]
  have k6 : (v.kind == 6) = false := by simp [hk]
  have k7 : (v.kind == 7) = false := by simp [hk]
  have c263 := (walk263 v).call trivial;rw [encV_eq v] at c263;have c339 := (walk339 hrep (ofN v)).call (by simp [pureR]);simp only [encN] at c263 c339;have hxl := txtR_len (ofN v);generalize txtR (ofN v) = X at *;have hsl : (X.1).length ≤ v.text.length + 1000 := oM;refine ⟨(resT X.1 X.2 x).1, (resT X.1 X.2 x).2, ?_, (resT_flat _ _ _).1, (resT_flat _ _ _).2, Nat.le_trans (resT_len _ _ _) hsl⟩;intro env;refine ok273.co (k := false) (mO_closed _ _ _) trivial ?_;rw [encV_eq v];simp only [go_sem, mC, ir273, k1, k2, k3, k4, k6, k7, q0, List.map_cons, List.map_nil, simprocAttr];refine wn c263 ?_;refine zz36 ?_;refine wn c339 ?_;refine zz36 ?_;apply ik <;> intro h
  ·have hr : resT X.1 X.2 x = (zeroV, failE x X.2) := by unfold resT; rw [if_pos h]
   rw [hr];refine wn (cf env X.2) ?_;generalize zeroV = z at *;rw [encV_eq];refine zz1 ?_;exact zf
  ·have hr : resT X.1 X.2 x = (.mk 4 0 0 X.1 [] [], x) := by unfold resT; rw [if_neg (nF h)]
   rw [hr];have c216 := (walk216 X.1).call trivial
   try refine zz1 ?_
   refine wn c216 ?_;rw [encV_eq];refine zz1 ?_;exact zf
 by_cases hk : v.kind = 4
 ·have q0 : ((0 : Int) != 0) = false := rfl;have k1 : (v.kind == 1) = false := by simp [hk]
  have k2 : (v.kind == 2) = false := by simp [hk]
  have k3 : (v.kind == 3) = false := by simp [hk]
  have k4 : (v.kind == 4) = true := by simp [hk]
  have k6 : (v.kind == 6) = false := by simp [hk]
  have k7 : (v.kind == 7) = false := by simp [hk]
  have hsl : (v.text).length ≤ v.text.length + 1000 := oM;refine ⟨(resT v.text 0 x).1, (resT v.text 0 x).2, ?_, (resT_flat _ _ _).1, (resT_flat _ _ _).2, Nat.le_trans (resT_len _ _ _) hsl⟩;intro env;refine ok273.co (k := false) (mO_closed _ _ _) trivial ?_;rw [encV_eq v];simp only [go_sem, mC, ir273, k1, k2, k3, k4, k6, k7, q0, List.map_cons, List.map_nil, simprocAttr];have hr : resT v.text 0 x = (.mk 4 0 0 v.text [] [], x) := rfl;rw [hr];have c216 := (walk216 v.text).call trivial
  try refine zz1 ?_
  refine wn c216 ?_;rw [encV_eq];refine zz1 ?_;exact zf
 by_cases hk : v.kind = 6
 ·have q0 : ((0 : Int) != 0) = false := rfl;have k1 : (v.kind == 1) = false := by simp [hk]
  have k2 : (v.kind == 2) = false := by simp [hk]
  have k3 : (v.kind == 3) = false := by simp [hk]
  have k4 : (v.kind == 4) = false := by simp [hk]
  have k6 : (v.kind == 6) = true := by simp [hk]
  have k7 : (v.kind == 7) = false := by simp [hk]
  obtain ⟨s, e, c, hsb⟩ := day_ex hrep v.int;have c340 := c.call (by simp [pureR]);have hsl : (s).length ≤ v.text.length + 1000 := oM;refine ⟨(resT s e x).1, (resT s e x).2, ?_, (resT_flat _ _ _).1, (resT_flat _ _ _).2, Nat.le_trans (resT_len _ _ _) hsl⟩;intro env;refine ok273.co (k := false) (mO_closed _ _ _) trivial ?_;rw [encV_eq v];simp only [go_sem, mC, ir273, k1, k2, k3, k4, k6, k7, q0, List.map_cons, List.map_nil, simprocAttr];refine wn c340 ?_;refine zz36 ?_;apply ik <;> intro h
  ·have hr : resT s e x = (zeroV, failE x e) := by unfold resT; rw [if_pos h]
   rw [hr];refine wn (cf env e) ?_;generalize zeroV = z at *;rw [encV_eq];refine zz1 ?_;exact zf
  ·have hr : resT s e x = (.mk 4 0 0 s [] [], x) := by unfold resT; rw [if_neg (nF h)]
   rw [hr];have c216 := (walk216 s).call trivial
   try refine zz1 ?_
   refine wn c216 ?_;rw [encV_eq];refine zz1 ?_;exact zf
 by_cases hk : v.kind = 7
 ·have q0 : ((0 : Int) != 0) = false := rfl;have k1 : (v.kind == 1) = false := by simp [hk]
  have k2 : (v.kind == 2) = false := by simp [hk]
  have k3 : (v.kind == 3) = false := by simp [hk]
  have k4 : (v.kind == 4) = false := by simp [hk]
  have k6 : (v.kind == 6) = false := by simp [hk]
  have k7 : (v.kind == 7) = true := by simp [hk]
  obtain ⟨s, e, c, hsb⟩ := time_ex hrep v.int;have c341 := c.call (by simp [pureR]);have hsl : (s).length ≤ v.text.length + 1000 := oM;refine ⟨(resT s e x).1, (resT s e x).2, ?_, (resT_flat _ _ _).1, (resT_flat _ _ _).2, Nat.le_trans (resT_len _ _ _) hsl⟩;intro env;refine ok273.co (k := false) (mO_closed _ _ _) trivial ?_;rw [encV_eq v];simp only [go_sem, mC, ir273, k1, k2, k3, k4, k6, k7, q0, List.map_cons, List.map_nil, simprocAttr];refine wn c341 ?_;refine zz36 ?_;apply ik <;> intro h
  ·have hr : resT s e x = (zeroV, failE x e) := by unfold resT; rw [if_pos h]
   rw [hr];refine wn (cf env e) ?_;generalize zeroV = z at *;rw [encV_eq];refine zz1 ?_;exact zf
  ·have hr : resT s e x = (.mk 4 0 0 s [] [], x) := by unfold resT; rw [if_neg (nF h)]
   rw [hr];have c216 := (walk216 s).call trivial
   try refine zz1 ?_
   refine wn c216 ?_;rw [encV_eq];refine zz1 ?_;exact zf
 have q0 : ((18 : Int) != 0) = true := rfl;have k1 : (v.kind == 1) = false := by simp; assumption
 have k2 : (v.kind == 2) = false := by simp; assumption
 have k3 : (v.kind == 3) = false := by simp; assumption
 have k4 : (v.kind == 4) = false := by simp; assumption
 have k6 : (v.kind == 6) = false := by simp; assumption
 have k7 : (v.kind == 7) = false := by simp; assumption
 refine ⟨zeroV, failE x 18, ?_, rfl, rfl, Nat.zero_le _⟩;intro env;refine ok273.co (k := false) (mO_closed _ _ _) trivial ?_;rw [encV_eq v];simp only [go_sem, mC, ir273, k1, k2, k3, k4, k6, k7, q0, List.map_cons, List.map_nil, simprocAttr];refine wn (cf env 18) ?_;generalize zeroV = z at *;rw [encV_eq];refine zz1 ?_;exact zf
theorem una27 (hrep : Rep0) : Una27 := by
 intro v;obtain ⟨w, y, h, h1, h2, h3⟩ := tof_all hrep v 0;refine ⟨w, y, ?_, ⟨h1, h2⟩, h3⟩;intro env;have c273 := (h env).to trivial;refine ok197.co (k := false) (mO_closed _ _ _) trivial ?_;have hb : ((0 : Int) != 0) = false := rfl;rw [encV_eq v, encV_eq w] at c273;rw [encV_eq v, encV_eq w];simp only [go_sem, mC, ir197, hb, List.map_cons, List.map_nil, Int.reduceBEq, simprocAttr];refine wn c273 ?_;refine zz1 ?_;exact zf
end Go.Proofs
namespace Go.Proofs
open Go Av Go.RowKit Go.Shelf
variable {g N k : Nat} {xs : List UInt8} {w : World}
def BRow (g : Nat) (xs : List UInt8) (N : Nat) (w : World) : Prop := ∃ tl : List Value, w.heap[g]? = some (.cells ((xs.map fun b => Value.int .u8 b.toNat) ++ tl).toArray 5 (N, N + 1)) ∧ N = xs.length + tl.length
theorem BRow.cell (h : BRow g xs N w) (hk : k < xs.length) : w.cell? ⟨g, k, none⟩ = some (.int .u8 (xs.getD k 0).toNat) := by
 obtain ⟨tl, h, _⟩ := h;simp [World.cell?, h, List.getElem?_append, hk, List.getD]
theorem BRow.frozen (h : BRow g xs N w) (hk : k < xs.length) : w.frozen? ⟨g, k, none⟩ = false := by
 obtain ⟨tl, h, hN⟩ := h;have : k < N := oM;simp [World.frozen?, h];omega
theorem BRow.set (h : BRow g xs N w) (hk : k < xs.length) (b : UInt8) : BRow g (xs.set k b) N (w.setCell ⟨g, k, none⟩ (.int .u8 b.toNat)) := by
 obtain ⟨tl, h, hN⟩ := h;refine ⟨tl, ?_, by simpa using hN⟩;simp only [World.setCell, Array.getElem?_modify, h, if_true, Option.map_some];congr 2;apply Array.ext';simp [List.map_set, List.set_append, hk]
theorem sft_step (s : Str) (f : Nat) (d : Int) (hk : k < s.length) :
  sftS (s.take (k + 1)) f d ++ s.drop (k + 1) = (sftS (s.take k) f d ++ s.drop k).set k (sftB f d (s.getD k 0)) := by
 have e1 : (sftS (s.take k) f d).length = k := by simp [sftS]; omega
 have e2 : s.drop k = s.getD k 0 :: s.drop (k + 1) := by
  rw [List.drop_eq_getElem_cons hk];simp [List.getD, List.getElem?_eq_getElem hk]
 rw [List.set_append_right _ _ oM, e1, Nat.sub_self, e2, List.set_cons_zero];have e3 : s.take (k + 1) = s.take k ++ [s.getD k 0] := by
  rw [List.take_add_one, List.getElem?_eq_getElem hk];simp [List.getD, List.getElem?_eq_getElem hk]
 rw [e3];simp [sftS]
theorem sft_get (s : Str) (f : Nat) (d : Int) (hk : k < s.length) : (sftS (s.take k) f d ++ s.drop k).getD k 0 = s.getD k 0 := by
 have e1 : (sftS (s.take k) f d).length = k := by simp [sftS]; omega
 rw [List.getD_eq_getElem?_getD, List.getElem?_append_right oM, e1, Nat.sub_self];simp [List.getD]
theorem set_same {α : Type} (l : List α) (k : Nat) (z : α) (h : k < l.length) : l.set k (l.getD k z) = l := by
 apply List.ext_getElem sP;intro i h1 h2;rw [List.getElem_set];split
 ·rename_i e; subst e; simp [List.getD, List.getElem?_eq_getElem h]
 ·rfl
set_option maxHeartbeats 6400000 in
set_option maxRecDepth 1000000 in
theorem sft_calls (s : Str) (f : Nat) (d : Int) (w : World) (hf : f < 230) (hd : ∀ c : Nat, f ≤ c → c < f + 26 → 0 ≤ (c : Int) + d ∧ (c : Int) + d < 256) (hd2 : -1000 ≤ d ∧ d ≤ 1000) (hl : s.length ≤ 68719476736) :
  Calls Tryz.prog 343 #[.string ⟨s.toArray⟩, .int .u8 f, .int .i64 d] w fun e w' => e = .returned (.string ⟨(sftS s f d).toArray⟩) ∧ Below w.heap.size w w' := by
 have hconv := run_bytes_of_string (P := Tryz.prog) w 9 299 5 ⟨s.toArray⟩ Tryz.underlying9 Tryz.underlying299 Tryz.underlying5;have hss : (⟨s.toArray⟩ : ByteArray).size = s.length := rfl;rw [hss] at hconv;generalize hcp : grownCap w s.length 0 5 = cap at hconv
 go_enter Tryz.func343, Tryz.ntmps343
 go_wp2
 go_loopw [14] (fun i wr => ∃ k : Nat, k ≤ s.length ∧ i = .int .i64 k ∧ (∃ N, BRow w.heap.size (sftS (s.take k) f d ++ s.drop k) N wr) ∧ Below w.heap.size w wr) (fun i wr => s.length - (intOf i).toNat)
 case atStart =>
  refine ⟨0, Nat.zero_le _, rfl, ⟨(bytesRow ⟨s.toArray⟩ cap).size, List.replicate (cap - s.length) (.int .u8 0), ?_, ?_⟩, ((Below.refl _ w).drew).alloc (Nat.le_refl _) _⟩
  ·have e : (((sftS (s.take 0) f d ++ s.drop 0).map fun b => Value.int .u8 b.toNat) ++ List.replicate (cap - s.length) (Value.int .u8 0)).toArray = bytesRow ⟨s.toArray⟩ cap := by
    apply Array.ext';simp [bytesRow, sftS];rfl
   rw [e];exact alloc_at w _
  ·simp [bytesRow, sftS];rfl
 case round =>
  obtain ⟨k, hk, rfl, ⟨N, hB⟩, hbw⟩ := hrel;by_cases hlt : k < s.length
  ·have hlen : (sftS (s.take k) f d ++ s.drop k).length = s.length := by simp [sftS]; omega
   have hkl : k < (sftS (s.take k) f d ++ s.drop k).length := oM;have hc := hB.cell hkl;have hfz := hB.frozen hkl;have hgd := sft_get s f d hlt;have hst := sft_step s f d hlt;rw [hgd] at hc;have hcl : (s.getD k 0).toNat < 256 := UInt8.toNat_lt _;have hsb : (sftB f d (s.getD k 0)) = if f ≤ (s.getD k 0).toNat ∧ (s.getD k 0).toNat - f < 26 then UInt8.ofNat (((s.getD k 0).toNat : Int) + d).toNat else s.getD k 0 := rfl;generalize hcc : (s.getD k 0).toNat = c at hc hcl hsb;by_cases hin : f ≤ c ∧ c < f + 26
   ·have hdd := hd c hin.1 hin.2;obtain ⟨e, he⟩ : ∃ e : Nat, (c : Int) + d = (e : Int) := ⟨((c : Int) + d).toNat, oM⟩;rw [if_pos ⟨hin.1, oM⟩, he, Int.toNat_natCast] at hsb;have hB2 := hB.set hkl (UInt8.ofNat e);have hen : (UInt8.ofNat e).toNat = e := by
     rw [UInt8.toNat_ofNat'];omega
    rw [hen, ← hsb, ← hst] at hB2
    go_wp2
    all_goals first
     | (exfalso; omega)
     | (refine ⟨⟨k + 1, oM, rfl, ⟨N, hB2⟩, hbw.setCell (Nat.le_refl _) _⟩, by simp [intOf]; omega⟩)
   ·rw [if_neg oM] at hsb;have hB2 := hB;rw [← set_same _ k 0 hkl, hgd, ← hsb, ← hst] at hB2
    go_wp2
    all_goals first
     | (exfalso; omega)
     | (refine ⟨⟨k + 1, oM, rfl, ⟨N, hB2⟩, hbw⟩, by simp [intOf]; omega⟩)
  ·have hkl : k = s.length := oM;subst hkl;rw [List.take_length, List.drop_length, List.append_nil] at hB;have hsl : (sftS s f d).length = s.length := by simp [sftS]
   have hback := run_convert_bytes_back (P := Tryz.prog) wr 299 9 5 ⟨w.heap.size, 0, none⟩ cap (sftS s f d) Tryz.underlying299 Tryz.underlying5 Tryz.underlying9 (fun j hj => by
    have := hB.cell hj;have e1 : ((⟨w.heap.size, 0, none⟩ : Addr).add j) = ⟨w.heap.size, j, none⟩ := by
     simp only [Addr.add, Nat.zero_add];split
     ·rename_i e; rw [e]
     ·rfl
    rw [e1, this];simp [List.getD, List.getElem?_eq_getElem hj])
   rw [hsl] at hback
   go_wp2
   go_ret
   exact ⟨rfl, hbw⟩
theorem sft_ok (s : Str) (f : Nat) (d : Int) (hf : f < 230) (hd : ∀ c : Nat, f ≤ c → c < f + 26 → 0 ≤ (c : Int) + d ∧ (c : Int) + d < 256) (hd2 : -1000 ≤ d ∧ d ≤ 1000) :
  CT 343 [.d (.str s), .d (.int .u8 f), .d (.int .i64 d)] [] (.d (.str (sftS s f d))) [] := by
 refine CallOK.of_calls (ds := [.str s, .int .u8 f, .int .i64 d]) (hasT Tryz.func343 kR kR) ?_;intro A w vs hsz hv;obtain ⟨x, y, z, rfl⟩ : ∃ x y z, vs = #[x, y, z] := by
  have h3 : 3 = vs.size := hsz;refine ⟨vs[0], vs[1], vs[2], ?_⟩;apply Array.ext
  ·simp [← h3]
  ·intro i h1 h2;have : i = 0 ∨ i = 1 ∨ i = 2 := oM;rcases this with rfl | rfl | rfl <;> rfl
 have hx := hv 0 _ x rfl rfl;have hy := hv 1 _ y rfl rfl;have hz := hv 2 _ z rfl rfl;cases hx with
 | str _ hl =>
  cases hy;cases hz;refine (sft_calls s f d w hf hd hd2 hl).mono ?_;rintro e w' ⟨rfl, hb⟩;exact ⟨_, rfl, hb, fun β H => .d _ _ (.str _ (by simpa [sftS] using hl))⟩
theorem sft0_ok : Sft0 := ⟨fun s => sft_ok s 65 32 oM (fun c h1 h2 => by omega) oM, fun s => sft_ok s 97 (-32) oM (fun c h1 h2 => by omega) oM⟩
end Go.Proofs
namespace Go.Proofs
open Go Av
theorem MCon.at {f : Nat} {ds : List Dat} {env : Val} {x y : Int} {v : Av} (h : MCon f ds env x v y) (hv : pureR v) (i : Nat) : CT f (.ref i 0 :: ds.map .d) [(i, some (mO env x))] v [(i, mO env y)] := Con.rw1 h hv i
def evalR (c k : Int) (v : Val) (y : Int) : Val × Int := if c != 0 then (zeroV, c) else if k != 9 then (zeroV, 11) else if y != 0 then (zeroV, y) else (v, 0)
theorem walk33 (e : Exp) (env v : Val) (y : Int) (hv : okV v) (h : MCon 95 [encE e] env 0 (.d (encV v)) y) :
  PT 33 [encE e, encV env] (.tup [.d (encV (evalR (chkX e) env.kind v y).1), .d (.int .i64 (evalR (chkX e) env.kind v y).2)]) := by
 refine ok33.pc ?_;have c90 := (walk90 e).call trivial;have c95 := h.at trivial 21;have c54 := (walk54 v hv).call trivial;generalize hT : evalR (chkX e) env.kind v y = T;unfold evalR at hT;generalize chkX e = c at *;rw [encE_eq] at c90 c95 ⊢;rw [encV_eq v] at c95 c54;rw [encV_eq env, encV_eq T.1];simp only [go_sem, ir33, simprocAttr];refine wc c90 ?_;apply ik <;> intro h0
 ·rw [if_pos h0] at hT;subst hT
  first | exact ⟨rfl, rfl⟩ | exact rfl
 rw [if_neg (nF h0)] at hT
 try refine zz ?_
 apply ik <;> intro h1
 ·rw [if_pos h1] at hT;subst hT
  first | exact ⟨rfl, rfl⟩ | exact rfl
 rw [if_neg (nF h1)] at hT
 try refine zz ?_
 refine wn c95 ?_;refine zz1 ?_;apply ik <;> intro h2
 ·rw [if_pos h2] at hT;subst hT
  first | exact ⟨rfl, rfl⟩ | exact rfl
 rw [if_neg (nF h2)] at hT;subst hT
 try refine zz ?_
 refine wc c54 trivial
end Go.Proofs
