/- Part J of a proof. -/
import Derived.Test.YtiekiedlkehccaaGreatDoorDpH
import Derived.Test.YtiekiedlkehccaaGreatDoorDpC
import Derived.Test.YtiekiedlkehccaaGreatDoorDpA
import Derived.Test.YtiekiedlkehccaaGreatDoorDpI
import Derived.Test.YtiekiedlkehccaaGreatDoorDpD
import Derived.Lib.Bytealg
import Derived.Test.YtiekiedlkehccaaGreatDoorDpF
set_option linter.unusedVariables false
set_option linter.unusedSimpArgs false
set_option linter.unusedSectionVars false
set_option maxRecDepth 10000
namespace Go.Proofs
open Go Av
noncomputable def chkS : Nat → Int → List (Exp × Nat) → Int
 | 0, _, _ => 0
 | _ + 1, _, [] => 0
 | f + 1, n, (e, l) :: st => if n ≥ 256 then 9 else if l > 8 then 23 else if oneE e ≠ 0 then oneE e else chkS f (n + 1) (e.args.map (fun x => (x, l + 1)) ++ st)
noncomputable def runS : Int → List (Exp × Nat) → Int × Int
 | n, [] => (0, n)
 | n, (e, l) :: st => if (eF (9 - l) n e).1 ≠ 0 then eF (9 - l) n e else runS (eF (9 - l) n e).2 st
theorem runS_app : ∀ (a b : List (Exp × Nat)) (n : Int), runS n (a ++ b) = if (runS n a).1 ≠ 0 then runS n a else runS (runS n a).2 b
 | [], b, n => by simp [runS]
 | (e, l) :: a, b, n => by
  by_cases h : (eF (9 - l) n e).1 = 0
  ·have e1 : ∀ st, runS n ((e, l) :: st) = runS (eF (9 - l) n e).2 st := fun st => by rw [runS, if_neg (by simp [h])]
   rw [List.cons_append, e1, e1];exact runS_app a b _
  ·have e1 : ∀ st, runS n ((e, l) :: st) = eF (9 - l) n e := fun st => by rw [runS, if_pos h]
   rw [List.cons_append, e1, e1, if_pos h]
theorem runS_args (l : Nat) : ∀ (es : List Exp) (n : Int), runS n (es.map fun x => (x, l)) = foldE (eF (9 - l)) n es
 | [], n => rfl
 | e :: es, n => by
  simp only [List.map_cons, runS, foldE];rw [runS_args l es]
theorem chkS_run : ∀ (f : Nat) (n : Int) (st : List (Exp × Nat)), 0 ≤ n → n ≤ 256 → 256 - n < f → (∀ x ∈ st, 1 ≤ x.2 ∧ x.2 ≤ 9) → chkS f n st = (runS n st).1
  | 0, n, st, _, h1, h2, _ => by omega
  | f + 1, n, [], _, _, _, _ => rfl
  | f + 1, n, (e, l) :: st, h0, h1, h2, hl => by
    obtain ⟨l1, l9⟩ := hl (e, l) List.mem_cons_self
    simp only at l1 l9
    by_cases hn : n = 256
    · have : eF (9 - l) n e = (9, n) := by
        cases 9 - l <;> simp [eF, hn]
      rw [chkS, if_pos (by omega), runS, this, if_pos (by simp)]
    · have hn' : ¬ n ≥ 256 := by omega
      by_cases hd : l = 9
      · subst hd
        simp [chkS, runS, eF, hn, hn']
      · obtain ⟨k, hk⟩ : ∃ k, 9 - l = k + 1 := ⟨9 - l - 1, by omega⟩
        have hk' : 9 - (l + 1) = k := by omega
        have hl8 : ¬ l > 8 := by omega
        by_cases ho : oneE e = 0
        · have ee : eF (9 - l) n e = foldE (eF k) (n + 1) e.args := by rw [hk, eF, if_neg hn, if_neg (by simp [ho])]
          rw [chkS, if_neg hn', if_neg hl8, if_neg (by simp [ho]), chkS_run f (n + 1) _ (by omega) (by omega) (by omega) (fun x hx => by
            rcases List.mem_append.1 hx with h | h
            · obtain ⟨y, _, rfl⟩ := List.mem_map.1 h
              simp only; omega
            · exact hl x (List.mem_cons_of_mem _ h)), runS_app, runS_args, hk', runS, ee]
        · have ee : eF (9 - l) n e = (oneE e, n + 1) := by rw [hk, eF, if_neg hn, if_pos ho]
          rw [chkS, if_neg hn', if_neg hl8, if_pos ho, runS, ee, if_pos ho]
theorem chkS_X (e : Exp) : chkS 257 0 [(e, 1)] = chkX e := by
 rw [chkS_run 257 0 _ dC dC dC sP];simp only [runS, chkX];split
 ·rfl
 ·rename_i h;exact (Decidable.not_not.1 h).symm
def arityG (k : Int) : Int × Int := if k = 25 then (2, 4611686018427387904) else arityF k
def ownV : List Val → Int
 | [] => 4
 | [v] => if chkV v != 0 then chkV v else if decide (v.kind > 7) then 18 else 0
 | _ => 3
noncomputable def ownE (e : Exp) : Int :=
 if decide (e.op < 1) || decide (e.op > 28) then 11
 else if (((!pathedB e.op && e.text != []) || (!scaledB e.op && e.int != 0)) || (e.op != 1 && decide ((e.value.length : Int) > 0))) || ((arityG e.op).2 == 0 && decide ((e.args.length : Int) > 0)) then 3
 else if decide ((e.args.length : Int) < (arityG e.op).1) then 4
 else if decide ((e.args.length : Int) > (arityG e.op).2) then 3
 else if e.op == 1 then ownV e.value
 else if pathedB e.op && (parseS e.text).2 != 0 then (parseS e.text).2
 else if pathedB e.op && !(((parseS e.text).1.any fun p => p.kind == 3) == (e.op == 26)) then 22
 else if scaledB e.op && (decide (e.int < 0) || decide (e.int > 12)) then 2 else 0
theorem chkV_kind {v : Val} (h : chkV v = 0) : 1 ≤ v.kind := by
 unfold chkV at h;simp only [visF] at h;split at h
 ·rename_i hx; exact absurd h hx
 ·rename_i hx;simp only [ne_eq, Decidable.not_not] at hx;unfold chkE at hx;split at hx
  ·cases hx
  split at hx
  ·cases hx
  split at hx
  ·cases hx
  split at hx
  ·cases hx
  ·rename_i hk;simp at hk;omega
theorem ownV_eq (l : List Val) : ownV l = cvE l := by
 match l with
 | [] => rfl
 | [v] =>
  simp only [ownV, cvE];by_cases h : chkV v = 0
  ·have := chkV_kind h;have e : (!scalarB v.kind) = decide (v.kind > 7) := by
    unfold scalarB;have h1 : decide (v.kind ≥ 1) = true := sO;rw [h1, Bool.true_and];by_cases h7 : v.kind ≤ 7
    ·have : ¬ v.kind > 7 := oM;simp [h7, this]
    ·have : v.kind > 7 := oM;simp [h7, this]
   rw [e]
  ·have h' : (chkV v != 0) = true := by simp [h]
   rw [if_pos h', if_pos h']
 | v :: w :: r => rfl
theorem ownE_eq (e : Exp) (ha : e.args.length ≤ 68719476736) : ownE e = oneE e := by
 unfold ownE oneE;rw [ownV_eq];have e2 : ((arityG e.op).2 == 0) = ((arityF e.op).2 == 0) := by
  unfold arityG;split
  ·rename_i h; rw [h]; decide
  ·rfl
 have e1 : (arityG e.op).1 = (arityF e.op).1 := by
  unfold arityG;split
  ·rename_i h; rw [h]; decide
  ·rfl
 have e3 : decide ((e.args.length : Int) > (arityG e.op).2) = (decide ((e.args.length : Int) > (arityF e.op).2) && e.op != 25) := by
  unfold arityG;split
  ·rename_i h;have : ¬ (e.args.length : Int) > 4611686018427387904 := oM;simp [h, this]
  ·rename_i h;simp [h]
 rw [e1, e2, e3];generalize (decide (e.op < 1) || decide (e.op > 28)) = b0;generalize (!pathedB e.op && e.text != []) = b1;generalize (!scaledB e.op && e.int != 0) = b2;generalize (e.op != 1 && decide ((e.value.length : Int) > 0)) = b3;generalize ((arityF e.op).2 == 0 && decide ((e.args.length : Int) > 0)) = b4;cases b0 <;> cases b1 <;> cases b2 <;> cases b3 <;> cases b4 <;> simp
theorem walk152 (k : Int) : PT 152 [.int .i64 k] (.tup [.d (.int .i64 (arityG k).1), .d (.int .i64 (arityG k).2)]) := by
 refine ok152.pc ?_;by_cases h1 : k = 1
 ·subst h1;have e : arityG 1 = (0, 0) := dC;rw [e];simp only [go_sem, ir152, Int.reduceBEq, Int.reduceEq, simprocAttr]
 have b1 : (k == 1) = false := by simp [h1]
 by_cases h2 : k = 2
 ·subst h2;have e : arityG 2 = (0, 0) := dC;rw [e];simp only [go_sem, ir152, Int.reduceBEq, Int.reduceEq, simprocAttr]
 have b2 : (k == 2) = false := by simp [h2]
 by_cases h22 : k = 22
 ·subst h22;have e : arityG 22 = (0, 0) := dC;rw [e];simp only [go_sem, ir152, Int.reduceBEq, Int.reduceEq, simprocAttr]
 have b22 : (k == 22) = false := by simp [h22]
 by_cases h26 : k = 26
 ·subst h26;have e : arityG 26 = (0, 0) := dC;rw [e];simp only [go_sem, ir152, Int.reduceBEq, Int.reduceEq, simprocAttr]
 have b26 : (k == 26) = false := by simp [h26]
 by_cases h3 : k = 3
 ·subst h3;have e : arityG 3 = (1, 1) := dC;rw [e];simp only [go_sem, ir152, Int.reduceBEq, Int.reduceEq, simprocAttr]
 have b3 : (k == 3) = false := by simp [h3]
 by_cases h16 : k = 16
 ·subst h16;have e : arityG 16 = (1, 1) := dC;rw [e];simp only [go_sem, ir152, Int.reduceBEq, Int.reduceEq, simprocAttr]
 have b16 : (k == 16) = false := by simp [h16]
 by_cases h18 : k = 18
 ·subst h18;have e : arityG 18 = (1, 1) := dC;rw [e];simp only [go_sem, ir152, Int.reduceBEq, Int.reduceEq, simprocAttr]
 have b18 : (k == 18) = false := by simp [h18]
 by_cases h19 : k = 19
 ·subst h19;have e : arityG 19 = (1, 1) := dC;rw [e];simp only [go_sem, ir152, Int.reduceBEq, Int.reduceEq, simprocAttr]
 have b19 : (k == 19) = false := by simp [h19]
 by_cases h20 : k = 20
 ·subst h20;have e : arityG 20 = (1, 1) := dC;rw [e];simp only [go_sem, ir152, Int.reduceBEq, Int.reduceEq, simprocAttr]
 have b20 : (k == 20) = false := by simp [h20]
 by_cases h27 : k = 27
 ·subst h27;have e : arityG 27 = (1, 1) := dC;rw [e];simp only [go_sem, ir152, Int.reduceBEq, Int.reduceEq, simprocAttr]
 have b27 : (k == 27) = false := by simp [h27]
 by_cases h28 : k = 28
 ·subst h28;have e : arityG 28 = (1, 1) := dC;rw [e];simp only [go_sem, ir152, Int.reduceBEq, Int.reduceEq, simprocAttr]
 have b28 : (k == 28) = false := by simp [h28]
 by_cases h21 : k = 21
 ·subst h21;have e : arityG 21 = (3, 3) := dC;rw [e];simp only [go_sem, ir152, Int.reduceBEq, Int.reduceEq, simprocAttr]
 have b21 : (k == 21) = false := by simp [h21]
 by_cases h24 : k = 24
 ·subst h24;have e : arityG 24 = (3, 3) := dC;rw [e];simp only [go_sem, ir152, Int.reduceBEq, Int.reduceEq, simprocAttr]
 have b24 : (k == 24) = false := by simp [h24]
 by_cases h25 : k = 25
 ·subst h25;have e : arityG 25 = (2, 4611686018427387904) := dC;rw [e];simp only [go_sem, ir152, Int.reduceBEq, Int.reduceEq, simprocAttr]
 have b25 : (k == 25) = false := by simp [h25]
 have e : arityG k = (2, 2) := by simp [arityG, arityF, h1, h2, h22, h26, h3, h16, h18, h19, h20, h27, h28, h21, h24, h25]
 rw [e];simp only [go_sem, ir152, b1, b2, b22, b26, b3, b16, b18, b19, b20, b27, b28, b21, b24, b25, simprocAttr]
theorem walk153 (k : Int) : PT 153 [.int .i64 k] (.d (.bool (pathedB k))) := by
 refine ok153.pc ?_;simp only [go_sem, ir153, simprocAttr];refine sq (k == 22) ?_ ?_
 ·exact zz trivial
 refine zz ?_;refine sq (k == 26) ?_ ?_
 ·exact zz trivial
 simp only [go_sem, pathedB, simprocAttr]
theorem walk154 (k : Int) : PT 154 [.int .i64 k] (.d (.bool (scaledB k))) := by
 refine ok154.pc ?_;simp only [go_sem, ir154, simprocAttr];refine sq (k == 26) ?_ ?_
 ·exact zz trivial
 simp only [go_sem, scaledB, simprocAttr]
theorem walk155 (l : List Part) (hl : l.length ≤ 68719476736) : PT 155 [.list 3 (l.map encP)] (.d (.int .i64 (l.countP fun p => p.kind == 3))) := by
 refine ok155.pc ?_;simp only [go_sem, ir155, simprocAttr];refine wpc_loop (fun r s => ∃ (k : Nat), k ≤ l.length ∧ r = l.length - k ∧
  s = ⟨[(0, .d (.list 3 (l.map encP))), (3, .d (.int .i64 ((l.take k).countP fun p => p.kind == 3))), (4, .d (.int .i64 k))], []⟩) ?_ ?_
 ·exact ⟨_, _, Wk.refl _, 0, Nat.zero_le _, rfl, rfl⟩
 ·rintro r s ⟨k, hk, rfl, rfl⟩;have hcl : (l.take k).countP (fun p => p.kind == 3) ≤ 68719476736 := Nat.le_trans List.countP_le_length sO;by_cases hlt : k < l.length
  ·have hx := nth_encP hlt;have hd := dT hlt;have hc : (l.take (k + 1)).countP (fun p => p.kind == 3) = (l.take k).countP (fun p => p.kind == 3) + if l[k].kind == 3 then 1 else 0 := by
    rw [List.take_succ_eq_append_getElem hlt, List.countP_append, List.countP_singleton]
   refine zz8 ?_;refine ⟨oM, dC, fun h => ?_, fun h => ?_⟩
   ·refine ⟨l.length - (k + 1), _, oM, Wk.less ?_, k + 1, oM, rfl, rfl⟩;rw [h, if_pos rfl] at hc;have hw : IntKind.i64.wrap (((l.take k).countP (fun p => p.kind == 3) : Int) + 1) = (((l.take (k + 1)).countP (fun p => p.kind == 3) : Nat) : Int) := by rw [wrap64 oM oM, hc]; omega
    simp only [go_sem, hw, wrap64s k oM, simprocAttr]
   ·refine ⟨l.length - (k + 1), _, oM, Wk.less ?_, k + 1, oM, rfl, rfl⟩;rw [h, if_neg sP, Nat.add_zero] at hc;simp only [go_sem, hc, wrap64s k oM, simprocAttr]
  ·have hd := dF hlt;obtain rfl : k = l.length := oM;exact zz77 trivial
theorem countP_all (l : List Part) : decide (((l.countP fun p => p.kind == 3 : Nat) : Int) > 0) = l.any fun p => p.kind == 3 := by
 rw [Bool.eq_iff_iff, decide_eq_true_eq, List.any_eq_true];constructor
 ·intro h;exact List.countP_pos_iff.1 oM
 ·intro h;have := List.countP_pos_iff.2 h;omega
theorem walk75 (e : Exp) : PT 75 [encE e] (.d (.int .i64 (ownE e))) := by
 refine PCon.of_fits ok75.has fun hfit => ?_
 obtain ⟨ft, fv, fa, _⟩ := fits_E (hfit _ (List.mem_singleton.2 rfl));refine ok75.pc ?_;generalize hR : ownE e = R;rw [encE_eq];simp only [go_sem, ir75, Nat.reduceAdd, Nat.reduceEqDiff, Nat.reduceBEq, Nat.reduceLeDiff, reduceCtorEq, ↓reduceIte];refine wc ((walk152 e.op).call (by simp [pureR])) ?_;refine sq (decide (e.op > 28)) ?_ ?_
 ·exact zz trivial
 refine zz ?_;refine ⟨fun h1 => ?_, fun h1 => wn ((walk153 e.op).call trivial) ?_⟩
 ·rw [← hR, ownE, if_pos h1]
 rw [ownE, if_neg (by simp only [h1]; decide)] at hR;refine zz ?_;refine sq (e.text != []) ?_ ?_
 ·refine zz ?_;exact zf
 refine zz ?_;refine sq (!scaledB e.op && e.int != 0) ?_ ?_
 ·refine zz ?_;refine wc ((walk154 _).call trivial) ?_;refine sq (e.int != 0) ?_ ?_
  ·exact zz trivial
  exact zz trivial
 refine zz ?_;refine sq (e.op != 1 && decide ((e.value.length : Int) > 0)) ?_ ?_
 ·refine zz ?_;refine sq (decide ((e.value.length : Int) > 0)) ?_ ?_
  ·exact zz7 trivial
  exact zz trivial
 refine zz ?_;refine sq ((arityG e.op).2 == 0 && decide ((e.args.length : Int) > 0)) ?_ ?_
 ·refine zz ?_;refine sq (decide ((e.args.length : Int) > 0)) ?_ ?_
  ·exact zz7 trivial
  exact zz trivial
 refine zz ?_;apply ik <;> intro h2
 ·rw [if_pos h2] at hR;rw [hR]
 rw [if_neg (by rw [h2]; exact Bool.false_ne_true)] at hR;refine zz7 ?_;refine ⟨fun h3 => ?_, fun h3 => ⟨fun h4 => ?_, fun h4 => ?_⟩⟩
 ·rw [if_pos h3] at hR;rw [hR]
 ·rw [if_neg (by rw [h3]; exact Bool.false_ne_true), if_pos h4] at hR;rw [hR]
 rw [if_neg (by rw [h3]; exact Bool.false_ne_true), if_neg (by rw [h4]; exact Bool.false_ne_true)] at hR;apply ik <;> intro h5
 ·rw [if_pos h5] at hR;have h51 : e.op = 1 := by simpa using h5
  have p1 : pathedB e.op = false := by rw [h51]; rfl
  have p2 : scaledB e.op = false := by rw [h51]; rfl
  have c153 := (walk153 e.op).call trivial;have c154 := (walk154 e.op).call trivial;generalize hV : e.value = vs at *;refine ⟨fun q0 => ?_, fun q0 => ⟨fun q1 => ?_, fun q1 => ?_⟩⟩
  ·obtain rfl : vs = [] := by
    cases vs with
    | nil => rfl
    | cons a r => simp at q0; omega
   simp only [ownV] at hR;rw [← hR]
  ·have hR' : R = 3 := by
    match vs, hR, q1 with
    | [], _, q1 => simp at q1
    | [v], _, q1 => simp at q1
    | v :: w :: r, hR, _ => exact hR.symm
   rw [hR']
  ·obtain ⟨v, rfl⟩ : ∃ v, vs = [v] := by
    match vs, q0, q1 with
    | [], q0, _ => simp at q0
    | [v], _, _ => exact ⟨v, rfl⟩
    | v :: w :: r, _, q1 => simp at q1; omega
   have hx : nth [encV v] 0 = .agg [.int .i64 v.kind, .int .i64 v.int, .int .i64 v.scale, .str v.text, .list 6 (v.list.map encV), .list 7 (v.fields.map encF)] := nth_encV (xs := [v]) (k := 0) (by simp);have c30 := (walk30 v).call trivial;rw [encV_eq] at c30;simp only [List.map_cons, List.map_nil, go_sem, hx, Int.toNat_zero, List.length_cons, List.length_nil, Nat.reduceAdd, Nat.reduceEqDiff, Nat.reduceBEq, Nat.reduceLeDiff, reduceCtorEq, ↓reduceIte];refine ⟨by omega, wn c30 ?_⟩;refine zz ?_;simp only [ownV] at hR;apply ik <;> intro h6
   ·rw [if_pos h6] at hR;rw [hR]
   rw [if_neg (by rw [h6]; exact Bool.false_ne_true)] at hR;simp only [List.map_cons, List.map_nil, go_sem, hx, Int.toNat_zero, List.length_cons, List.length_nil, Nat.reduceAdd, Nat.reduceEqDiff, Nat.reduceBEq, Nat.reduceLeDiff, reduceCtorEq, ↓reduceIte];refine ⟨by omega, by decide, fun h7 => ?_, fun h7 => ?_⟩
   ·rw [if_pos h7] at hR;rw [hR]
   rw [if_neg (by rw [h7]; exact Bool.false_ne_true)] at hR;refine wn c153 ?_;simp only [go_sem, p1, Nat.reduceAdd, Nat.reduceEqDiff, Nat.reduceBEq, Nat.reduceLeDiff, reduceCtorEq, ↓reduceIte];refine wn c154 ?_;simp only [go_sem, p2, Nat.reduceAdd, Nat.reduceEqDiff, Nat.reduceBEq, Nat.reduceLeDiff, reduceCtorEq, ↓reduceIte];rw [hR]
 rw [if_neg (by rw [h5]; exact Bool.false_ne_true)] at hR;refine wc ((walk153 _).call trivial) ?_;apply ik <;> intro hp
 ·rw [hp] at hR;simp only [Bool.true_and] at hR;refine wc ((walk26 e.text ft).call (by simp [pureR])) ?_;apply ik <;> intro h7
  ·rw [if_pos h7] at hR;rw [hR]
  rw [if_neg (by rw [h7]; exact Bool.false_ne_true)] at hR;refine wpsL_call rfl ((walk155 _ (parseS_len16 e.text)).call trivial) trivial ?_;simp only [go_sem, countP_all, Nat.reduceAdd, Nat.reduceEqDiff, Nat.reduceBEq, Nat.reduceLeDiff, reduceCtorEq, ↓reduceIte];refine ⟨rfl, fun h8 => ?_, fun h8 => ?_⟩
  ·rw [if_pos h8] at hR;rw [hR]
  rw [if_neg (by rw [h8]; exact Bool.false_ne_true)] at hR;refine wc ((walk154 _).call trivial) ?_;refine sq (decide (e.int < 0) || decide (e.int > 12)) ?_ ?_
  ·refine zz ?_;refine sq (decide (e.int > 12)) ?_ ?_
   ·exact zz trivial
   exact zz trivial
  refine zz ?_;apply ik <;> intro h9
  ·rw [if_pos h9] at hR;rw [hR]
  ·rw [if_neg (by rw [h9]; exact Bool.false_ne_true)] at hR;rw [hR]
 ·rw [hp] at hR;simp only [Bool.false_and, Bool.false_eq_true, ↓reduceIte] at hR;refine wc ((walk154 _).call trivial) ?_;refine sq (decide (e.int < 0) || decide (e.int > 12)) ?_ ?_
  ·refine zz ?_;refine sq (decide (e.int > 12)) ?_ ?_
   ·exact zz trivial
   exact zz trivial
  refine zz ?_;apply ik <;> intro h9
  ·rw [if_pos h9] at hR;rw [hR]
  ·rw [if_neg (by rw [h9]; exact Bool.false_ne_true)] at hR;rw [hR]
def encIt (x : Exp × Nat) : Dat := .agg [.int .i64 x.1.op, .int .i64 x.1.int, .str x.1.text, .list 6 (x.1.value.map encV), .list 5 (x.1.args.map encE), .int .i64 x.2]
@[instance_reducible] def rls6 : Rls := ⟨fun n => n == 1 || n == 6⟩
theorem rl6_eq (n : Nat) : @Rls.rl rls6 n = (n == 1 || n == 6) := rfl
theorem walk27 (e0 : Exp) (hN0 : okN e0) : PT 27 [encE e0] (.d (.int .i64 (chkX e0))) := by
 letI : Rls := rls6
 refine ok27.pc ?_;rw [← chkS_X e0];generalize hR : chkS 257 0 [(e0, 1)] = R;rw [encE_eq];simp only [go_sem, ir27, rl6_eq, Bool.or_true, Bool.or_false, Bool.true_or, Bool.false_or, Nat.reduceAdd, Nat.reduceEqDiff, Nat.reduceBEq, Nat.reduceLeDiff, reduceCtorEq, ↓reduceIte];refine ⟨by simp, ?_⟩;refine wpc_loop (fun r s => ∃ (v ver : Nat) (st : List (Exp × Nat)) (xs : List Dat), v ≤ 256 ∧ r = 257 - v ∧ st.length ≤ xs.length ∧ xs.take st.length = st.reverse.map encIt ∧ chkS (257 - v) v st = R ∧ st.length ≤ 1 + v * 1048576 ∧ (∀ x ∈ st, okN x.1 ∧ x.2 ≤ 9) ∧
  s = ⟨[(3, .sub 10 ver 0 st.length), (4, .d (.int .i64 v))], [(10, .row ver 6 xs)]⟩) ?_ ?_
 ·refine ⟨_, _, (Wk.subT 3 10 0 6 [encIt (e0, 1)] rfl rfl).trans (Wk.less ?_), 0, 0, [(e0, 1)], [encIt (e0, 1)], by decide, rfl, by simp, rfl, hR, by simp, by simpa using hN0, rfl⟩;simp [put, go_sem];rfl
 ·rintro r s ⟨v, ver, st, xs, hv, rfl, hlx, hxs, hinv, hsl, hok, rfl⟩;have hlt0 : (xs.take st.length).length = st.length := by simp; omega
  match st, hlx, hxs, hinv, hsl, hok, hlt0 with
  | [], hlx, hxs, hinv, hsl, hok, hlt0 =>
   have hz : chkS (257 - v) v [] = 0 := by
    cases 257 - v <;> rfl
   rw [hz] at hinv;subst hinv;have hd0 : decide (((0 : Nat) : Int) > 0) = false := by decide
   simp only [go_sem, hd0, List.length_nil, List.take_zero, Nat.reduceAdd, Nat.reduceEqDiff, Nat.reduceBEq, Nat.reduceLeDiff, reduceCtorEq, ↓reduceIte]
  | (e, l) :: st, hlx, hxs, hinv, hsl, hok, hlt0 =>
   obtain ⟨hN, hl9⟩ := hok (e, l) List.mem_cons_self;simp only at hN hl9;obtain ⟨hal, haN⟩ := okN_args hN;simp only [List.length_cons] at hlx hsl hlt0;have hx : nth xs st.length = encIt (e, l) := by
    have h1 : (xs.take (st.length + 1))[st.length]? = some (encIt (e, l)) := by
     simp only [List.length_cons] at hxs;rw [hxs];simp [List.getElem?_append_right]
    rw [List.getElem?_take_of_lt (by omega)] at h1;rw [nth, List.getD_eq_getElem?_getD, h1];rfl
   have hd : decide (((st.length + 1 : Nat) : Int) > 0) = true := by simp
   have hw : IntKind.i64.wrap (((st.length + 1 : Nat) : Int) - 1) = st.length := by rw [wrap64 (by omega) (by omega)]; first | done | omega
   have ht : ((st.length : Int) - 0).toNat = st.length := by omega
   have h70 := (walk75 e).call trivial;rw [encE_eq] at h70;simp only [encIt] at hx;simp only [go_sem, rl6_eq, Bool.or_true, Bool.or_false, Bool.true_or, Bool.false_or, List.length_cons, hlt0, hd, hw, hx, ht, Int.toNat_natCast, Nat.zero_add, Nat.reduceAdd, Nat.reduceEqDiff, Nat.reduceBEq, Nat.reduceLeDiff, reduceCtorEq, ↓reduceIte];obtain ⟨F, hF⟩ : ∃ F, 257 - v = F + 1 := ⟨256 - v, by omega⟩;have hF' : 257 - (v + 1) = F := by omega
   rw [hF, chkS] at hinv;have hoe : ownE e = oneE e := ownE_eq e (by omega);have hxs' : xs.take st.length = st.reverse.map encIt := by
    simp only [List.length_cons, List.reverse_cons, List.map_append] at hxs;have h1 := congrArg (List.take st.length) hxs;rw [List.take_take, List.take_append_of_le_length (by simp)] at h1;rw [Nat.min_eq_left (by omega)] at h1;rw [h1, List.take_of_length_le (by simp)]
   refine ⟨⟨by omega, by omega⟩, ⟨by omega, by omega, by omega⟩, fun h1 => ?_, fun h1 => ⟨fun h2 => ?_, fun h2 => wn h70 ?_⟩⟩
   ·rw [if_pos (by simpa using h1)] at hinv;rw [hinv]
   ·rw [if_neg (by simp at h1; omega), if_pos (by simp at h2; omega)] at hinv;rw [← hinv]
   rw [if_neg (by simp at h1; omega), if_neg (by simp at h2; omega)] at hinv;refine zz ?_;apply ik <;> intro h3
   ·rw [if_pos (by rw [← hoe]; simpa using h3)] at hinv;rw [hoe, hinv]
   have h3' : oneE e = 0 := by rw [← hoe]; simpa using h3
   rw [if_neg (by simp [h3'])] at hinv;have hv6 : v < 256 := by simp at h1; omega
   have hw2 : IntKind.i64.wrap ((e.args.length : Int) - 1) = (e.args.length : Int) - 1 := wrap64 (by omega) (by omega);simp only [go_sem, List.length_map, hw2, Nat.reduceAdd, Nat.reduceEqDiff, Nat.reduceBEq, Nat.reduceLeDiff, reduceCtorEq, ↓reduceIte];refine wpc_loop (fun r s => ∃ (j ver' : Nat) (cur : List (Exp × Nat)) (ys : List Dat), j ≤ e.args.length ∧ r = j + 0 ∧ cur = (e.args.drop j).map (fun x => (x, l + 1)) ++ st ∧ cur.length ≤ ys.length ∧ ys.take cur.length = cur.reverse.map encIt ∧
    s = ⟨[(3, .sub 10 ver' 0 cur.length), (4, .d (.int .i64 v)), (5, .ref 5 0), (7, .d (.int .i64 ((j : Int) - 1)))],
     [(10, .row ver' 6 ys), (5, .box [.d (.int .i64 e.op), .d (.int .i64 e.int), .d (.str e.text), .d (.list 6 (e.value.map encV)), .d (.list 5 (e.args.map encE)), .d (.int .i64 l)])]⟩) ?_ ?_
   ·refine ⟨_, _, Wk.less ?_, e.args.length, ver, st, xs, Nat.le_refl _, rfl, by simp, by omega, hxs', rfl⟩;simp [go_sem]
   ·rintro r s ⟨j, ver', cur, ys, hj, hr, hcur, hly, hys, rfl⟩;have hcl : cur.length = (e.args.length - j) + st.length := by rw [hcur]; simp
    have hlt1 : (ys.take cur.length).length = cur.length := by simp; omega
    cases j with
    | zero =>
     have hd1 : decide (((0 : Nat) : Int) - 1 ≥ 0) = false := by decide
     simp only [go_sem, hd1, Nat.reduceAdd, Nat.reduceEqDiff, Nat.reduceBEq, Nat.reduceLeDiff, reduceCtorEq, ↓reduceIte];refine ⟨257 - (v + 1), _, by omega, Wk.less ?_, v + 1, ver', cur, ys, by omega, rfl, hly, hys, ?_, ?_, ?_, rfl⟩
     ·have hw4 : IntKind.i64.wrap ((v : Int) + 1) = ((v + 1 : Nat) : Int) := by rw [wrap64 (by omega) (by omega)]; omega
      simp [go_sem, hw4]
     ·rw [hF', hcur, List.drop_zero];have : ((v + 1 : Nat) : Int) = (v : Int) + 1 := by omega
      rw [this];exact hinv
     ·rw [hcl]; omega
     ·intro x hx';rw [hcur] at hx';rcases List.mem_append.1 hx' with h | h
      ·obtain ⟨y, hy, rfl⟩ := List.mem_map.1 h;rw [List.drop_zero] at hy;exact ⟨haN y hy, by simp at h2 ⊢; omega⟩
      ·exact hok x (List.mem_cons_of_mem _ h)
    | succ j =>
     have hlt : j < e.args.length := by omega
     have hd1 : decide ((j : Int) ≥ 0) = true := by simp
     have e1 : ((j + 1 : Nat) : Int) - 1 = (j : Int) := by omega
     have hx2 := nth_encE hlt;have hw3 : IntKind.i64.wrap ((l : Int) + 1) = ((l + 1 : Nat) : Int) := by rw [wrap64 (by omega) (by omega)]; omega
     simp only [go_sem, rl6_eq, Bool.or_true, Bool.or_false, Bool.true_or, Bool.false_or, hd1, e1, hx2, hw3, Int.toNat_natCast, List.length_map, Nat.reduceAdd, Nat.reduceEqDiff, Nat.reduceBEq, Nat.reduceLeDiff, reduceCtorEq, ↓reduceIte];have hw5 : IntKind.i64.wrap ((j : Int) - 1) = (j : Int) - 1 := wrap64 (by omega) (by omega);have hl2 : (ys.take cur.length ++ [encIt (e.args[j], l + 1)]).length = cur.length + 1 := by rw [List.length_append, hlt1]; rfl
     refine ⟨⟨by omega, by omega⟩, by simp, ⟨by omega, by omega⟩, j, _, by omega, (Wk.subT 3 10 (ver' + 1) 6 (ys.take cur.length ++ [encIt (e.args[j], l + 1)]) rfl rfl).trans (Wk.less ?_), j, ver' + 1, (e.args[j], l + 1) :: cur, ys.take cur.length ++ [encIt (e.args[j], l + 1)], by omega, rfl, ?_, ?_, ?_, rfl⟩
     ·rw [hl2, hw5];simp [put, go_sem, encIt]
     ·rw [List.drop_eq_getElem_cons hlt, List.map_cons, List.cons_append, ← hcur]
     ·rw [hl2]; exact Nat.le_refl _
     ·rw [List.length_cons, List.take_of_length_le (by rw [hl2]; exact Nat.le_refl _), hys];simp
theorem cmpBytes_iff : ∀ (a b : Str), Lib.compareBytes a b = 0 ↔ a = b
 | [], [] => by simp [Lib.compareBytes]
 | [], _ :: _ => by simp [Lib.compareBytes]
 | _ :: _, [] => by simp [Lib.compareBytes]
 | a :: r, b :: s => by
  rw [Lib.compareBytes];by_cases h : a < b
  ·simp only [h, ↓reduceIte, List.cons.injEq];refine ⟨fun h => by omega, fun e => absurd h ?_⟩;rw [e.1]; exact UInt8.lt_irrefl _
  ·by_cases h' : b < a
   ·simp only [h, h', ↓reduceIte, List.cons.injEq];refine ⟨fun h => by omega, fun e => absurd h' ?_⟩;rw [e.1]; exact UInt8.lt_irrefl _
   ·simp only [h, h', ↓reduceIte, List.cons.injEq, cmpBytes_iff r s];have : a = b := UInt8.le_antisymm (UInt8.not_lt.1 h') (UInt8.not_lt.1 h);simp [this]
theorem cmpS_iff (a b : Str) : cmpS a b = 0 ↔ a = b := by
 rw [cmpS, Lib.cmp_eq];exact cmpBytes_iff a b
theorem cmpI_iff (a b : Int) : cmpI a b = 0 ↔ a = b := by
 unfold cmpI;split
 ·omega
 ·split <;> omega
theorem orI_iff : ∀ (l : List Int), orI l = 0 ↔ ∀ x ∈ l, x = 0
 | [] => by simp [orI]
 | x :: r => by
  rw [orI];by_cases h : x = 0
  ·simp [h, orI_iff r]
  ·simp [h]
mutual
theorem cmpV_iff : ∀ (a b : Val), cmpV a b = 0 ↔ a = b
 | .mk k i s t l f, .mk k' i' s' t' l' f' => by
  rw [cmpV, orI_iff];simp only [List.mem_cons, List.not_mem_nil, or_false, forall_eq_or_imp, forall_eq, cmpI_iff, cmpS_iff, Val.kind, Val.int, Val.scale, Val.text, Val.list, Val.fields, cmpVs_iff l, cmpFs_iff f, Val.mk.injEq]
theorem cmpVs_iff : ∀ (a b : List Val), cmpVs a b = 0 ↔ a = b
 | [], [] => by simp [cmpVs]
 | [], _ :: _ => by simp [cmpVs]
 | _ :: _, [] => by simp [cmpVs]
 | x :: xs, y :: ys => by
  rw [cmpVs, List.cons.injEq, ← cmpV_iff x y, ← cmpVs_iff xs ys];by_cases h : cmpV x y = 0
  ·simp [h]
  ·simp [h]
theorem cmpF_iff : ∀ (a b : Fld), cmpF a b = 0 ↔ a = b
 | .mk n v, .mk n' v' => by
  rw [cmpF, orI_iff];simp only [List.mem_cons, List.not_mem_nil, or_false, forall_eq_or_imp, forall_eq, cmpS_iff, Fld.name, Fld.value, cmpV_iff v, Fld.mk.injEq]
theorem cmpFs_iff : ∀ (a b : List Fld), cmpFs a b = 0 ↔ a = b
 | [], [] => by simp [cmpFs]
 | [], _ :: _ => by simp [cmpFs]
 | _ :: _, [] => by simp [cmpFs]
 | x :: xs, y :: ys => by
  rw [cmpFs, List.cons.injEq, ← cmpF_iff x y, ← cmpFs_iff xs ys];by_cases h : cmpF x y = 0
  ·simp [h]
  ·simp [h]
end
theorem nth_str {xs : List Str} {k : Nat} (h : k < xs.length) : nth (xs.map .str) k = .str xs[k] := by rw [nth_eq (sX h), List.getElem_map]
theorem pathsE_len {e : Exp} (h : chkX e = 0) : (pathsE e).length ≤ 256 := by
 have h1 := pF_le e h;have h2 := (uniqF_sub (sortS (pF 8 e)) none).length_le;have h3 := (sortS_perm (pF 8 e)).length_eq;rw [pathsE, if_neg (sX h)];unfold uniq;omega
theorem evl_both {e : Exp} {env w : Val} (h : chkX e = 0) (hz : chkV env = 0) (hz2 : chkV w = 0) (hk : w.kind = env.kind) (hp : ∀ s ∈ pathsE e, findV env (parseS s).1 = findV w (parseS s).1) :
  ∃ R : Val × Int, PT 33 [encE e, encV env] (.tup [.d (encV R.1), .d (.int .i64 R.2)]) ∧ PT 33 [encE e, encV w] (.tup [.d (encV R.1), .d (.int .i64 R.2)]) := by
 obtain ⟨s1, s2⟩ := chkV_sz hz;obtain ⟨s3, s4⟩ := chkV_sz hz2;have ha := agr_paths (env := env) (env2 := w) 8 e fun s hs => hp s ((mem_pathsE h s).2 hs)
 obtain ⟨v, y, h1, h2, hg⟩ := evl_two txt0_ok sft0_ok (una27 rep0_ok) env w s1 s2 s3 s4 8 0 e dC h ha 0;have g1 := walk33 e env v y (good_ok hg) h1;have g2 := walk33 e w v y (good_ok hg) h2;rw [hk] at g2;exact ⟨_, g1, g2⟩
theorem p26 (s : Str) : PT 26 [.str s] (.tup [.d (.list 3 ((parseS s).1.map encP)), .d (.int .i64 (parseS s).2)]) := PCon.of_fits ok26.has fun h => walk26 s (by have := h _ (List.mem_cons_self); simpa [fits] using this)
theorem walk5 (e : Exp) (env : Val) (c : Fld) (hN : okN e) (hz : szV env ≤ 2000000) (h20 : PT 20 [] (.d (.bool true))) : PT 5 [encE e, encV env, encF c] (.d (.bool true)) := by
 obtain ⟨path, x⟩ := c;refine ok5.pc ?_;have c20 := h20.call trivial;have c26 := (p26 path).call (by simp [pureR]);have c27 := (walk27 e hN).call trivial;have c31 := (walk31 e).call trivial;have hln := parseS_ln path;have hval := parseS_val path;generalize hL : parseS path = L at *;have hnm : ∀ p ∈ L.1, p.name.length ≤ 68719476736 := fun p hp => by have := (validP_bd (hval p hp)).1; omega
 have hdv : ∀ p ∈ L.1.dropLast, p.name.length ≤ 68719476736 := fun p hp => hnm p (List.dropLast_subset _ hp)
 have hdl : L.1.dropLast.length = L.1.length - 1 := List.length_dropLast;have c77 := (walk77 L.1.dropLast (by omega)).call trivial;have c28 := (walk28 env L.1.dropLast (by omega) hdv hz c77).call (by simp [pureR]);have h29 := walk29 env x L.1 (by omega) hnm;have hrg := fun he hg => rch_get (l := L.1) (v := env) hval he hg
 generalize hG : getV env L.1.dropLast = G at *;obtain ⟨PS, hPS⟩ : ∃ PS, PS = L.1.map encP := ⟨_, rfl⟩;have hPl : PS.length = L.1.length := by rw [hPS, List.length_map]
 have hslc : (PS.drop (Int.toNat 0)).take ((PS.length : Int) - 1 - 0).toNat = L.1.dropLast.map encP := by
  have : ((PS.length : Int) - 1 - 0).toNat = L.1.length - 1 := by omega
  rw [this, hPS, List.dropLast_eq_take, List.map_take];rfl
 rw [← hPS] at c26;rw [encE_eq] at c27 c31;rw [encV_eq env, encV_eq G.1] at c28;rw [encE_eq, encV_eq env, encF_eq];simp only [go_sem, ir5, Fld.name, Fld.value, Nat.reduceAdd, Nat.reduceEqDiff, Nat.reduceBEq, Nat.reduceLeDiff, reduceCtorEq, ↓reduceIte];refine wc c26 ?_;refine wn c20 ?_;simp only [go_sem, Bool.not_true, Nat.reduceAdd, Nat.reduceEqDiff, Nat.reduceBEq, Nat.reduceLeDiff, reduceCtorEq, ↓reduceIte];refine sq (chkX e != 0) ?_ ?_
 ·refine zz ?_;refine wc c27 trivial
 refine zz ?_;apply ik <;> intro h
 ·try refine zz ?_
  refine wc c20 trivial
 simp only [Bool.or_eq_false_iff] at h;obtain ⟨hL2, hX⟩ := h;have hX : chkX e = 0 := by simpa using hX
 try refine zz ?_
 apply ik <;> intro hlen
 ·have hlen' : 1 < L.1.length := by simp at hlen; omega
  have hw : IntKind.i64.wrap ((PS.length : Int) - 1) = (PS.length : Int) - 1 := by rw [IntKind.wrap_i64]; omega
  try simp only [go_sem, hw, hslc, Nat.reduceAdd, Nat.reduceEqDiff, Nat.reduceBEq, Nat.reduceLeDiff, reduceCtorEq, ↓reduceIte]
  refine ⟨⟨by omega, by omega, by omega⟩, wpsL_call rfl c28 trivial ?_⟩;refine zz ?_;refine ⟨by decide, fun hg => ?_, fun hg => ?_⟩
  ·try simp only [go_sem, Nat.reduceAdd, Nat.reduceEqDiff, Nat.reduceBEq, Nat.reduceLeDiff, reduceCtorEq, ↓reduceIte]
  have hgg : 1 < L.1.length → G.2 = 0 := fun _ => by simpa using hg
  have c29 := (h29 fun hc he => hrg he hgg).call (by simp [pureR]);rw [← hPS] at c29;have hSR := @setE_R x L.1 env;have hSdef : setS env L.1 x = if (chkP L.1 != 0) || evP L.1 then (zeroV, 3) else setE x L.1 env := rfl;generalize setS env L.1 x = S at *;have c30a := (walk30 env).call trivial;have c30b := (walk30 S.1).call trivial;rw [encV_eq env] at c30a;rw [encV_eq S.1] at c30b;rw [encV_eq env, encV_eq x, encV_eq S.1] at c29
  try refine zz ?_
  refine wc c29 ?_;refine sq (chkV env != 0) ?_ ?_
  ·refine zz ?_;refine wc c30a trivial
  refine zz ?_;refine sq (chkV S.1 != 0) ?_ ?_
  ·refine zz ?_;refine wc c30b trivial
  refine zz ?_;apply ik <;> intro h5
  ·try simp only [go_sem, Nat.reduceAdd, Nat.reduceEqDiff, Nat.reduceBEq, Nat.reduceLeDiff, reduceCtorEq, ↓reduceIte]
  simp only [Bool.or_eq_false_iff] at h5;obtain ⟨⟨h51, h52⟩, h53⟩ := h5;have hS0 : S.2 = 0 := by simpa using h51
  have hV0 : chkV env = 0 := by simpa using h52
  have hW0 : chkV S.1 = 0 := by simpa using h53
  have hguard : ((chkP L.1 != 0) || evP L.1) = false := by
   cases hgd : ((chkP L.1 != 0) || evP L.1) with
   | false => rfl
   | true => rw [hgd, if_pos rfl] at hSdef; rw [hSdef] at hS0; cases hS0
  rw [hguard, if_neg Bool.false_ne_true] at hSdef;simp only [Bool.or_eq_false_iff] at hguard;obtain ⟨hg1, hg2⟩ := hguard;have hne : L.1 ≠ [] := by intro h0; rw [h0, chkP_nil] at hg1; cases hg1
  have hSR := hSR hne (hrg hg2 hgg) (by rw [← hSdef]; exact hS0);rw [← hSdef] at hSR;have hlv : ∀ p ∈ L.1, validP p = true ∧ p.kind ≠ 3 := fun p hp => ⟨hval p hp, by have := evP_false hg2 p hp; simpa using this⟩
  have hboth := fun hp => evl_both (e := e) (env := env) (w := S.1) hX hV0 hW0 (setR_keep hSR).1 hp
  have hfs := fun q ht => find_set (q := q) hlv hSR ht
  try refine zz ?_
  refine wc c31 ?_;have hps := pathsE_len hX;generalize pathsE e = ps at *;refine wpc_loop (fun n s => ∃ k : Nat, k ≤ ps.length ∧ n = ps.length - k ∧ (∀ (j : Nat) (h1 : j < ps.length), j < k → touch L.1 (parseS ps[j]).1 = false) ∧
   s = ⟨[(3, .ref 3 0), (4, .ref 4 0), (7, .d (.list 3 PS)), (11, .ref 11 0), (13, .d (.list 1 (ps.map .str))), (14, .d (.int .i64 k))],
    [(3, .box [.d (.int .i64 e.op), .d (.int .i64 e.int), .d (.str e.text), .d (.list 6 (e.value.map encV)), .d (.list 5 (e.args.map encE))]),
     (4, .box [.d (.int .i64 env.kind), .d (.int .i64 env.int), .d (.int .i64 env.scale), .d (.str env.text), .d (.list 6 (env.list.map encV)), .d (.list 7 (env.fields.map encF))]),
     (11, .box [.d (.int .i64 S.1.kind), .d (.int .i64 S.1.int), .d (.int .i64 S.1.scale), .d (.str S.1.text), .d (.list 6 (S.1.list.map encV)), .d (.list 7 (S.1.fields.map encF))])]⟩) ?_ ?_
  ·refine ⟨_, _, Wk.less ?_, 0, Nat.zero_le _, rfl, by simp, rfl⟩;simp [go_sem]
  ·rintro n s ⟨k, hk, rfl, hinv, rfl⟩;by_cases hlt : k < ps.length
   ·have hxk : nth (ps.map Dat.str) k = .str ps[k] := nth_str hlt;have hd : decide ((k : Int) < (ps.length : Int)) = true := by simp; omega
    have ck := (p26 ps[k]).call (by simp [pureR]);have ct := (walk32 L.1 (parseS ps[k]).1 (by omega) (by have := parseS_ln ps[k]; omega)).call trivial;rw [← hPS] at ct;generalize htk : touch L.1 (parseS ps[k]).1 = tb at *;simp only [go_sem, hxk, hd, Int.toNat_natCast, List.length_map, Nat.reduceAdd, Nat.reduceEqDiff, Nat.reduceBEq, Nat.reduceLeDiff, reduceCtorEq, ↓reduceIte];refine ⟨⟨by omega, by omega⟩, by decide, wn ck ?_⟩;refine zz ?_;refine wc ct ?_;apply ik <;> intro h
    ·try simp only [go_sem, Nat.reduceAdd, Nat.reduceEqDiff, Nat.reduceBEq, Nat.reduceLeDiff, reduceCtorEq, ↓reduceIte]
    ·refine ⟨ps.length - (k + 1), _, by omega, Wk.less ?_, k + 1, by omega, rfl, ?_, rfl⟩
     ·exact zz10 trivial
     ·intro j h1 hj;by_cases ej : j = k
      ·subst ej; rw [htk]; exact h
      ·exact hinv j h1 (by omega)
   ·have hd : decide ((k : Int) < (ps.length : Int)) = false := by simp; omega
    obtain rfl : k = ps.length := by omega
    obtain ⟨R, hR1, hR2⟩ := hboth fun s hs => by
     obtain ⟨j, hj, rfl⟩ := List.getElem_of_mem hs;exact hfs _ (hinv j hj hj)
    have cR1 := hR1.call (by simp [pureR]);have cR2 := hR2.call (by simp [pureR]);have c17 := (p17 R.1 R.1).call trivial;rw [(cmpV_iff R.1 R.1).2 rfl] at c17;rw [encE_eq, encV_eq env, encV_eq R.1] at cR1;rw [encE_eq, encV_eq S.1, encV_eq R.1] at cR2;rw [encV_eq R.1] at c17;refine zz74 ?_;refine wc cR1 ?_;refine wn cR2 ?_;have hee : (R.2 == R.2) = true := by simp
    simp only [go_sem, hee, Nat.reduceAdd, Nat.reduceEqDiff, Nat.reduceBEq, Nat.reduceLeDiff, reduceCtorEq, ↓reduceIte];refine wc c17 trivial
 ·have hlen' : ¬ 1 < L.1.length := by simp at hlen; omega
  have hgg : 1 < L.1.length → G.2 = 0 := fun h => absurd h hlen'
  have c29 := (h29 fun hc he => hrg he hgg).call (by simp [pureR]);rw [← hPS] at c29;have hSR := @setE_R x L.1 env;have hSdef : setS env L.1 x = if (chkP L.1 != 0) || evP L.1 then (zeroV, 3) else setE x L.1 env := rfl;generalize setS env L.1 x = S at *;have c30a := (walk30 env).call trivial;have c30b := (walk30 S.1).call trivial;rw [encV_eq env] at c30a;rw [encV_eq S.1] at c30b;rw [encV_eq env, encV_eq x, encV_eq S.1] at c29
  try refine zz ?_
  refine wc c29 ?_;refine sq (chkV env != 0) ?_ ?_
  ·refine zz ?_;refine wc c30a trivial
  refine zz ?_;refine sq (chkV S.1 != 0) ?_ ?_
  ·refine zz ?_;refine wc c30b trivial
  refine zz ?_;apply ik <;> intro h5
  ·try simp only [go_sem, Nat.reduceAdd, Nat.reduceEqDiff, Nat.reduceBEq, Nat.reduceLeDiff, reduceCtorEq, ↓reduceIte]
  simp only [Bool.or_eq_false_iff] at h5;obtain ⟨⟨h51, h52⟩, h53⟩ := h5;have hS0 : S.2 = 0 := by simpa using h51
  have hV0 : chkV env = 0 := by simpa using h52
  have hW0 : chkV S.1 = 0 := by simpa using h53
  have hguard : ((chkP L.1 != 0) || evP L.1) = false := by
   cases hgd : ((chkP L.1 != 0) || evP L.1) with
   | false => rfl
   | true => rw [hgd, if_pos rfl] at hSdef; rw [hSdef] at hS0; cases hS0
  rw [hguard, if_neg Bool.false_ne_true] at hSdef;simp only [Bool.or_eq_false_iff] at hguard;obtain ⟨hg1, hg2⟩ := hguard;have hne : L.1 ≠ [] := by intro h0; rw [h0, chkP_nil] at hg1; cases hg1
  have hSR := hSR hne (hrg hg2 hgg) (by rw [← hSdef]; exact hS0);rw [← hSdef] at hSR;have hlv : ∀ p ∈ L.1, validP p = true ∧ p.kind ≠ 3 := fun p hp => ⟨hval p hp, by have := evP_false hg2 p hp; simpa using this⟩
  have hboth := fun hp => evl_both (e := e) (env := env) (w := S.1) hX hV0 hW0 (setR_keep hSR).1 hp
  have hfs := fun q ht => find_set (q := q) hlv hSR ht
  try refine zz ?_
  refine wc c31 ?_;have hps := pathsE_len hX;generalize pathsE e = ps at *;refine wpc_loop (fun n s => ∃ k : Nat, k ≤ ps.length ∧ n = ps.length - k ∧ (∀ (j : Nat) (h1 : j < ps.length), j < k → touch L.1 (parseS ps[j]).1 = false) ∧
   s = ⟨[(3, .ref 3 0), (4, .ref 4 0), (7, .d (.list 3 PS)), (11, .ref 11 0), (13, .d (.list 1 (ps.map .str))), (14, .d (.int .i64 k))],
    [(3, .box [.d (.int .i64 e.op), .d (.int .i64 e.int), .d (.str e.text), .d (.list 6 (e.value.map encV)), .d (.list 5 (e.args.map encE))]),
     (4, .box [.d (.int .i64 env.kind), .d (.int .i64 env.int), .d (.int .i64 env.scale), .d (.str env.text), .d (.list 6 (env.list.map encV)), .d (.list 7 (env.fields.map encF))]),
     (11, .box [.d (.int .i64 S.1.kind), .d (.int .i64 S.1.int), .d (.int .i64 S.1.scale), .d (.str S.1.text), .d (.list 6 (S.1.list.map encV)), .d (.list 7 (S.1.fields.map encF))])]⟩) ?_ ?_
  ·refine ⟨_, _, Wk.less ?_, 0, Nat.zero_le _, rfl, by simp, rfl⟩;simp [go_sem]
  ·rintro n s ⟨k, hk, rfl, hinv, rfl⟩;by_cases hlt : k < ps.length
   ·have hxk : nth (ps.map Dat.str) k = .str ps[k] := nth_str hlt;have hd : decide ((k : Int) < (ps.length : Int)) = true := by simp; omega
    have ck := (p26 ps[k]).call (by simp [pureR]);have ct := (walk32 L.1 (parseS ps[k]).1 (by omega) (by have := parseS_ln ps[k]; omega)).call trivial;rw [← hPS] at ct;generalize htk : touch L.1 (parseS ps[k]).1 = tb at *;simp only [go_sem, hxk, hd, Int.toNat_natCast, List.length_map, Nat.reduceAdd, Nat.reduceEqDiff, Nat.reduceBEq, Nat.reduceLeDiff, reduceCtorEq, ↓reduceIte];refine ⟨⟨by omega, by omega⟩, by decide, wn ck ?_⟩;refine zz ?_;refine wc ct ?_;apply ik <;> intro h
    ·try simp only [go_sem, Nat.reduceAdd, Nat.reduceEqDiff, Nat.reduceBEq, Nat.reduceLeDiff, reduceCtorEq, ↓reduceIte]
    ·refine ⟨ps.length - (k + 1), _, by omega, Wk.less ?_, k + 1, by omega, rfl, ?_, rfl⟩
     ·exact zz10 trivial
     ·intro j h1 hj;by_cases ej : j = k
      ·subst ej; rw [htk]; exact h
      ·exact hinv j h1 (by omega)
   ·have hd : decide ((k : Int) < (ps.length : Int)) = false := by simp; omega
    obtain rfl : k = ps.length := by omega
    obtain ⟨R, hR1, hR2⟩ := hboth fun s hs => by
     obtain ⟨j, hj, rfl⟩ := List.getElem_of_mem hs;exact hfs _ (hinv j hj hj)
    have cR1 := hR1.call (by simp [pureR]);have cR2 := hR2.call (by simp [pureR]);have c17 := (p17 R.1 R.1).call trivial;rw [(cmpV_iff R.1 R.1).2 rfl] at c17;rw [encE_eq, encV_eq env, encV_eq R.1] at cR1;rw [encE_eq, encV_eq S.1, encV_eq R.1] at cR2;rw [encV_eq R.1] at c17;refine zz74 ?_;refine wc cR1 ?_;refine wn cR2 ?_;have hee : (R.2 == R.2) = true := by simp
    simp only [go_sem, hee, Nat.reduceAdd, Nat.reduceEqDiff, Nat.reduceBEq, Nat.reduceLeDiff, reduceCtorEq, ↓reduceIte];refine wc c17 trivial
end Go.Proofs
namespace Go.Proofs.YtiekiedlkehccaaGreatDoor
open Go Go.Proofs Av Go.ChangeShapes Go.WideShapes Go.ChangeAt Go.RowKit
theorem contractX (h20 : PT 20 [] (.d (.bool true))) (H : Type) (enc : TypeId × Value → H) (W : World) (base : Nat) (args : Array Value) (ds gs : List (DataW H)) (before : List MemPlace)
  (hval : ∀ (j : Nat) t v, Tryz.f5.params[j]? = some t → args[j]? = some v → Value.okWide Tryz.prog W .any base t v)
  (hW : DataW.Whole enc Tryz.prog Tryz.f5.params.toList Rows.exprDependsSpec.vars false W args.toList ds gs before) (hk : Rows.uptoSmall H (ds ++ gs) = true) (hL : laidMetH Tryz.prog Rows.exprDependsUptoRow.laid W) :
  Calls Tryz.prog 5 args W fun e W' => ∃ v, e = .returned v ∧ Rows.exprDependsSpec.post enc Tryz.prog Tryz.f5 false true false false W args v W' := by
 have hW' := hW;have hk' : Rows.uptoBulkAll (ds ++ gs) ≤ 1048576 := of_decide_eq_true hk;rw [bulk_append] at hk';obtain ⟨p, q, hA0, hV, rfl, hfz, hnd⟩ := hW;have hA : DataW.TrodAll enc Tryz.prog W 0 (fun _ => true) true Tryz.f5.params.toList args.toList ds p := hA0;rw [Tryz.params5] at hA hval;obtain ⟨v0, vs0, d0, ds0, p0, q0, hargs, rfl, rfl, h0, r0⟩ := trodAll_cons hA;obtain ⟨v1, vs1, d1, ds1, p1, q1, rfl, rfl, rfl, h1, r1⟩ := trodAll_cons r0;obtain ⟨v2, vs2, d2, ds2, p2, q2, rfl, rfl, rfl, h2, r2⟩ := trodAll_cons r1;obtain ⟨rfl, rfl, rfl⟩ := trodAll_nil r2;obtain rfl : args = #[v0, v1, v2] := by cases args; simp_all
 obtain ⟨rfl, rfl⟩ := trodVars_none hV;simp only [Rows.uptoBulkAll] at hk';obtain ⟨m, hm, rm⟩ := open_exp46 (hval 0 73 v0 rfl rfl) h0 oM;obtain ⟨a, ha, ra⟩ := open_val30 (hval 1 30 v1 rfl rfl) h1 oM;obtain ⟨c, rc⟩ := open_change79 (hval 2 79 v2 rfl rfl) h2 oM;refine (calls_of_pcon (walk5 m a c hm.2 oM h20) (vs := #[v0, v1, v2]) (globs hL) rfl ?_).mono ?_
 ·intro i d v hd hv
  match i, hd, hv with
  | 0, hd, hv => cases hd; cases hv; exact rm
  | 1, hd, hv => cases hd; cases hv; exact ra
  | 2, hd, hv => cases hd; cases hv; exact rc
 ·rintro e W' ⟨rfl, hbel⟩;have hlt : ∀ x ∈ p0 ++ (p1 ++ (p2 ++ [])), x.block < W.heap.size := fun x hx => by simpa using hW'.lt x (sX hx)
  refine ⟨.bool true, rfl, [d0, d1, d2], [], _, [], p0 ++ (p1 ++ (p2 ++ [])), [], hW', ?_, ?_, ?_, hbel.frame _, fun h => by cases h⟩
  ·exact trodAll_mk1 (shut_bool kR _)
  ·have a0 := Below.trod laidOut kR (of_decide_eq_true kR) h0 hbel (fun x hx => hlt x (by simp [hx]));have a1 := Below.trod laidOut kR (of_decide_eq_true kR) h1 hbel (fun x hx => hlt x (by simp [hx]));have a2 := Below.trod laidOut kR (of_decide_eq_true kR) h2 hbel (fun x hx => hlt x (by simp [hx]));show DataW.TrodAll enc Tryz.prog W' 0 _ true Tryz.f5.params.toList [v0, v1, v2] [d0, d1, d2] _;rw [Tryz.params5];exact trodAll_cons_mk a0 (trodAll_cons_mk a1 (trodAll_cons_mk a2 trodAll_mk0))
  ·rfl
end Go.Proofs.YtiekiedlkehccaaGreatDoor
