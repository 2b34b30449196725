/- The law's own check of expressions. -/
import Derived.Test.YtholoaojlcnacaaGreatDoorExA
import Derived.Test.YtholoaojlcnacaaGreatDoorAvD
import Derived.Test.YtholoaojlcnacaaGreatDoorReadA
import Derived.Test.YtholoaojlcnacaaGreatDoorPathF
set_option linter.unusedVariables false
set_option linter.unusedSimpArgs false
set_option linter.unusedSectionVars false
set_option linter.unusedSimpArgs false
set_option linter.unusedVariables false
set_option maxRecDepth 10000
namespace Go.Proofs
open Go Av

/-- an expression to be visited, and its level -/
def encIt (x : Exp × Nat) : Dat := .agg [.int .i64 x.1.op, .int .i64 x.1.int, .str x.1.text, .list 6 (x.1.value.map encV), .list 5 (x.1.args.map encE), .int .i64 x.2]
theorem nth_encIt {xs : List (Exp × Nat)} {k : Nat} (h : k < xs.length) : nth (xs.map encIt) k = .agg [.int .i64 xs[k].1.op, .int .i64 xs[k].1.int, .str xs[k].1.text, .list 6 (xs[k].1.value.map encV), .list 5 (xs[k].1.args.map encE), .int .i64 xs[k].2] := by
  rw [nth_eq (by simpa using h), List.getElem_map, encIt]
@[instance_reducible] def rls6 : Rls := ⟨fun n => n == 1 || n == 6⟩
theorem rl6_eq (n : Nat) : @Rls.rl rls6 n = (n == 1 || n == 6) := rfl

theorem walk26 (e0 : Exp) (hN0 : okN e0) : PCon Tryz.prog 26 [encE e0] (.d (.int .i64 (chkX e0))) := by
  letI : Rls := rls6
  refine ok26.pcon (Nat.le_of_ble_eq_true rfl) trivial ?_
  rw [← chkS_X e0]
  generalize hR : chkS 257 0 [(e0, 1)] = R
  rw [encE_eq]
  simp only [go_sem, ir26, rl6_eq, Bool.or_true, Bool.or_false, Bool.true_or, Bool.false_or, Nat.reduceAdd, Nat.reduceEqDiff, Nat.reduceBEq, Nat.reduceLeDiff, reduceCtorEq, ↓reduceIte]
  refine ⟨by simp, ?_⟩
  refine wpc_loop (fun r s => ∃ (v ver : Nat) (st : List (Exp × Nat)) (xs : List Dat), v ≤ 256 ∧ r = 257 - v ∧ st.length ≤ xs.length ∧ xs.take st.length = st.reverse.map encIt ∧ chkS (257 - v) v st = R ∧ st.length ≤ 1 + v * 1048576 ∧ (∀ x ∈ st, okN x.1 ∧ x.2 ≤ 9) ∧
    s = ⟨[(3, .sub 10 ver 0 st.length), (4, .d (.int .i64 v))], [(10, .row ver 6 xs)]⟩) ?_ ?_
  · refine ⟨_, _, (Wk.subT 3 10 0 6 [encIt (e0, 1)] rfl rfl).trans (Wk.less ?_), 0, 0, [(e0, 1)], [encIt (e0, 1)], by decide, rfl, by simp, rfl, hR, by simp, by simpa using hN0, rfl⟩
    simp [put, go_sem]
    rfl
  · rintro r s ⟨v, ver, st, xs, hv, rfl, hlx, hxs, hinv, hsl, hok, rfl⟩
    have hlt0 : (xs.take st.length).length = st.length := by simp; omega
    match st, hlx, hxs, hinv, hsl, hok, hlt0 with
    | [], hlx, hxs, hinv, hsl, hok, hlt0 =>
      have hz : chkS (257 - v) v [] = 0 := by
        cases 257 - v <;> rfl
      rw [hz] at hinv
      subst hinv
      have hd0 : decide (((0 : Nat) : Int) > 0) = false := by decide
      simp only [go_sem, hd0, List.length_nil, List.take_zero, Nat.reduceAdd, Nat.reduceEqDiff, Nat.reduceBEq, Nat.reduceLeDiff, reduceCtorEq, ↓reduceIte]
    | (e, l) :: st, hlx, hxs, hinv, hsl, hok, hlt0 =>
      obtain ⟨hN, hl9⟩ := hok (e, l) List.mem_cons_self
      simp only at hN hl9
      obtain ⟨hal, haN⟩ := okN_args hN
      simp only [List.length_cons] at hlx hsl hlt0
      have hx : nth xs st.length = encIt (e, l) := by
        have h1 : (xs.take (st.length + 1))[st.length]? = some (encIt (e, l)) := by
          simp only [List.length_cons] at hxs
          rw [hxs]
          simp [List.getElem?_append_right]
        rw [List.getElem?_take_of_lt (by omega)] at h1
        rw [nth, List.getD_eq_getElem?_getD, h1]
        rfl
      have hd : decide (((st.length + 1 : Nat) : Int) > 0) = true := by simp
      have hw : IntKind.i64.wrap (((st.length + 1 : Nat) : Int) - 1) = st.length := by rw [wrap64 (by omega) (by omega)]; first | done | omega
      have ht : ((st.length : Int) - 0).toNat = st.length := by omega
      have h70 := (walk70 e).call trivial
      rw [encE_eq] at h70
      simp only [encIt] at hx
      simp only [go_sem, rl6_eq, Bool.or_true, Bool.or_false, Bool.true_or, Bool.false_or, List.length_cons, hlt0, hd, hw, hx, ht, Int.toNat_natCast, Nat.zero_add, Nat.reduceAdd, Nat.reduceEqDiff, Nat.reduceBEq, Nat.reduceLeDiff, reduceCtorEq, ↓reduceIte]
      obtain ⟨F, hF⟩ : ∃ F, 257 - v = F + 1 := ⟨256 - v, by omega⟩
      have hF' : 257 - (v + 1) = F := by omega
      rw [hF, chkS] at hinv
      have hoe : ownE e = oneE e := ownE_eq e (by omega)
      have hxs' : xs.take st.length = st.reverse.map encIt := by
        simp only [List.length_cons, List.reverse_cons, List.map_append] at hxs
        have h1 := congrArg (List.take st.length) hxs
        rw [List.take_take, List.take_append_of_le_length (by simp)] at h1
        rw [Nat.min_eq_left (by omega)] at h1
        rw [h1, List.take_of_length_le (by simp)]
      refine ⟨⟨by omega, by omega⟩, ⟨by omega, by omega, by omega⟩, fun h1 => ?_, fun h1 => ⟨fun h2 => ?_, fun h2 => wps_call rfl h70 trivial ?_⟩⟩
      · rw [if_pos (by simpa using h1)] at hinv
        rw [hinv]
      · rw [if_neg (by simp at h1; omega), if_pos (by simp at h2; omega)] at hinv
        rw [← hinv]
      rw [if_neg (by simp at h1; omega), if_neg (by simp at h2; omega)] at hinv
      simp only [go_sem, Nat.reduceAdd, Nat.reduceEqDiff, Nat.reduceBEq, Nat.reduceLeDiff, reduceCtorEq, ↓reduceIte]
      refine ⟨fun h3 => ?_, fun h3 => ?_⟩
      · rw [if_pos (by rw [← hoe]; simpa using h3)] at hinv
        rw [hoe, hinv]
      have h3' : oneE e = 0 := by rw [← hoe]; simpa using h3
      rw [if_neg (by simp [h3'])] at hinv
      have hv6 : v < 256 := by simp at h1; omega
      have hw2 : IntKind.i64.wrap ((e.args.length : Int) - 1) = (e.args.length : Int) - 1 := wrap64 (by omega) (by omega)
      simp only [go_sem, List.length_map, hw2, Nat.reduceAdd, Nat.reduceEqDiff, Nat.reduceBEq, Nat.reduceLeDiff, reduceCtorEq, ↓reduceIte]
      refine wpc_loop (fun r s => ∃ (j ver' : Nat) (cur : List (Exp × Nat)) (ys : List Dat), j ≤ e.args.length ∧ r = j + 0 ∧ cur = (e.args.drop j).map (fun x => (x, l + 1)) ++ st ∧ cur.length ≤ ys.length ∧ ys.take cur.length = cur.reverse.map encIt ∧
        s = ⟨[(3, .sub 10 ver' 0 cur.length), (4, .d (.int .i64 v)), (5, .ref 5 0), (7, .d (.int .i64 ((j : Int) - 1)))],
          [(10, .row ver' 6 ys), (5, .box [.d (.int .i64 e.op), .d (.int .i64 e.int), .d (.str e.text), .d (.list 6 (e.value.map encV)), .d (.list 5 (e.args.map encE)), .d (.int .i64 l)])]⟩) ?_ ?_
      · refine ⟨_, _, Wk.less ?_, e.args.length, ver, st, xs, Nat.le_refl _, rfl, by simp, by omega, hxs', rfl⟩
        simp [go_sem]
      · rintro r s ⟨j, ver', cur, ys, hj, hr, hcur, hly, hys, rfl⟩
        have hcl : cur.length = (e.args.length - j) + st.length := by rw [hcur]; simp
        have hlt1 : (ys.take cur.length).length = cur.length := by simp; omega
        cases j with
        | zero =>
          have hd1 : decide (((0 : Nat) : Int) - 1 ≥ 0) = false := by decide
          simp only [go_sem, hd1, Nat.reduceAdd, Nat.reduceEqDiff, Nat.reduceBEq, Nat.reduceLeDiff, reduceCtorEq, ↓reduceIte]
          refine ⟨257 - (v + 1), _, by omega, Wk.less ?_, v + 1, ver', cur, ys, by omega, rfl, hly, hys, ?_, ?_, ?_, rfl⟩
          · have hw4 : IntKind.i64.wrap ((v : Int) + 1) = ((v + 1 : Nat) : Int) := by rw [wrap64 (by omega) (by omega)]; omega
            simp [go_sem, hw4]
          · rw [hF', hcur, List.drop_zero]
            have : ((v + 1 : Nat) : Int) = (v : Int) + 1 := by omega
            rw [this]
            exact hinv
          · rw [hcl]; omega
          · intro x hx'
            rw [hcur] at hx'
            rcases List.mem_append.1 hx' with h | h
            · obtain ⟨y, hy, rfl⟩ := List.mem_map.1 h
              rw [List.drop_zero] at hy
              exact ⟨haN y hy, by simp at h2 ⊢; omega⟩
            · exact hok x (List.mem_cons_of_mem _ h)
        | succ j =>
          have hlt : j < e.args.length := by omega
          have hd1 : decide ((j : Int) ≥ 0) = true := by simp
          have e1 : ((j + 1 : Nat) : Int) - 1 = (j : Int) := by omega
          have hx2 := nth_encE hlt
          have hw3 : IntKind.i64.wrap ((l : Int) + 1) = ((l + 1 : Nat) : Int) := by rw [wrap64 (by omega) (by omega)]; omega
          simp only [go_sem, rl6_eq, Bool.or_true, Bool.or_false, Bool.true_or, Bool.false_or, hd1, e1, hx2, hw3, Int.toNat_natCast, List.length_map, Nat.reduceAdd, Nat.reduceEqDiff, Nat.reduceBEq, Nat.reduceLeDiff, reduceCtorEq, ↓reduceIte]
          have hw5 : IntKind.i64.wrap ((j : Int) - 1) = (j : Int) - 1 := wrap64 (by omega) (by omega)
          have hl2 : (ys.take cur.length ++ [encIt (e.args[j], l + 1)]).length = cur.length + 1 := by rw [List.length_append, hlt1]; rfl
          refine ⟨⟨by omega, by omega⟩, by simp, ⟨by omega, by omega⟩, j, _, by omega, (Wk.subT 3 10 (ver' + 1) 6 (ys.take cur.length ++ [encIt (e.args[j], l + 1)]) rfl rfl).trans (Wk.less ?_), j, ver' + 1, (e.args[j], l + 1) :: cur, ys.take cur.length ++ [encIt (e.args[j], l + 1)], by omega, rfl, ?_, ?_, ?_, rfl⟩
          · rw [hl2, hw5]
            simp [put, go_sem, encIt]
          · rw [List.drop_eq_getElem_cons hlt, List.map_cons, List.cons_append, ← hcur]
          · rw [hl2]; exact Nat.le_refl _
          · rw [List.length_cons, List.take_of_length_le (by rw [hl2]; exact Nat.le_refl _), hys]
            simp
end Go.Proofs
/- The law's own list of the paths of an expression. -/
set_option linter.unusedSimpArgs false
set_option linter.unusedVariables false
set_option maxRecDepth 10000
namespace Go.Proofs
open Go Av

theorem nth_str {xs : List Str} {k : Nat} (h : k < xs.length) : nth (xs.map .str) k = .str xs[k] := by
  rw [nth_eq (by simpa using h), List.getElem_map]
/-- the paths of an expression put into a list -/
def pthL : Nat → List Str → Exp → List Str
  | 0, l, _ => l
  | k + 1, l, e => e.args.foldl (pthL k) (if pathedB e.op then insOne l e.text else l)
theorem pthL_eq : ∀ (k : Nat) (l : List Str) (e : Exp), pthL k l e = (pF k e).foldl insOne l
  | 0, l, e => rfl
  | k + 1, l, e => by
    have h : ∀ (es : List Exp) (l : List Str), es.foldl (pthL k) l = (es.flatMap (pF k)).foldl insOne l := by
      intro es
      induction es with
      | nil => intro l; rfl
      | cons a es ih => intro l; rw [List.foldl_cons, List.flatMap_cons, List.foldl_append, ih, pthL_eq k l a]
    rw [pthL, pF, List.foldl_append, h]
    split <;> rfl
theorem pthL_len (k : Nat) (l : List Str) (e : Exp) : (pthL k l e).length ≤ l.length + (pF k e).length := by rw [pthL_eq]; exact foldl_len _ _

theorem walk27 : ∀ (k : Nat) (n : Int) (e : Exp) (l : List Str), 0 ≤ n → n ≤ 256 → (eF k n e).1 = 0 → (l.length : Int) ≤ n →
    PCon Tryz.prog 27 [.list 1 (l.map .str), encE e] (.d (.list 1 ((pthL k l e).map .str))) := by
  intro k
  induction k with
  | zero => intro n e l _ _ h _; exact absurd h (eF_zero n e)
  | succ k ih =>
    intro n e l h0 h1 hz hl
    refine PCon.of_fits ok27.has fun hfit => ?_
    obtain ⟨_, _, f3, _⟩ := fits_E (hfit (encE e) (by simp))
    have hF := eF_succ hz
    rw [hF] at hz
    have hn1 : n + 1 ≤ 256 := by
      by_cases h256 : n = 256
      · rw [← hF, eF, if_pos h256] at hz; simp at hz
      · omega
    refine ok27.pcon (Nat.le_of_ble_eq_true rfl) trivial ?_
    have h71 := (walk71 e.op).call trivial
    generalize hR : pthL (k + 1) l e = R
    rw [pthL] at hR
    rw [encE_eq]
    simp only [go_sem, ir27, Nat.reduceAdd, Nat.reduceEqDiff, Nat.reduceBEq, Nat.reduceLeDiff, reduceCtorEq, ↓reduceIte]
    refine wps_call rfl h71 trivial ?_
    simp only [go_sem, Nat.reduceAdd, Nat.reduceEqDiff, Nat.reduceBEq, Nat.reduceLeDiff, reduceCtorEq, ↓reduceIte]
    refine ⟨fun hp => ?_, fun hp => ?_⟩
    · rw [hp, if_pos rfl] at hR
      refine wpc_loop (fun r s => ∃ (j : Nat), j ≤ l.length ∧ r = l.length - j ∧ (∀ i (h : i < l.length), i < j → strLt l[i] e.text = true) ∧
        s = ⟨[(0, .d (.list 1 (l.map .str))), (3, .ref 3 0), (5, .d (.int .i64 j))], [(3, .box [.d (.int .i64 e.op), .d (.int .i64 e.int), .d (.str e.text), .d (.list 6 (e.value.map encV)), .d (.list 5 (e.args.map encE))])]⟩) ?_ ?_
      · refine ⟨_, _, Wk.less ?_, 0, Nat.zero_le _, rfl, by simp, rfl⟩
        simp [go_sem]
      · rintro r s ⟨j, hj, rfl, hlow, rfl⟩
        by_cases hjl : j < l.length
        · have hy := nth_str hjl
          have hd2 : decide ((j : Int) < (l.length : Int)) = true := by simp; omega
          have hne : ((j : Int) == (l.length : Int)) = false := by simp; omega
          simp only [go_sem, hy, hd2, Int.toNat_natCast, List.length_map, Nat.reduceAdd, Nat.reduceEqDiff, Nat.reduceBEq, Nat.reduceLeDiff, reduceCtorEq, ↓reduceIte]
          refine ⟨⟨by omega, by omega⟩, by decide, fun hs => ?_, fun hs => ?_⟩
          · refine ⟨l.length - (j + 1), _, by omega, Wk.less ?_, j + 1, by omega, rfl, ?_, rfl⟩
            · simp only [go_sem, wrap64s j (by omega), Nat.reduceAdd, Nat.reduceEqDiff, Nat.reduceBEq, Nat.reduceLeDiff, reduceCtorEq, ↓reduceIte]
            · intro i h hi
              by_cases e : i = j
              · subst e; exact hs
              · exact hlow i h (by omega)
          have hpos : posS l e.text = j := posS_eq l e.text j hj hlow (fun _ => hs)
          have ht : ((l.length : Int) - (j : Int)).toNat = l.length - j := by omega
          simp only [go_sem, hne, hy, ht, Int.sub_zero, Int.toNat_zero, Int.toNat_natCast, List.length_map, Nat.reduceAdd, Nat.reduceEqDiff, Nat.reduceBEq, Nat.reduceLeDiff, reduceCtorEq, ↓reduceIte]
          refine ⟨⟨by omega, by omega⟩, by decide, fun hq => ?_, fun hq => ?_⟩
          · have hq : l[j] ≠ e.text := by simpa using hq
            have hins : insOne l e.text = l.take j ++ e.text :: l.drop j := by
              unfold insOne
              rw [hpos, if_neg (by simp [hjl, hq])]
            have hil := insOne_len l e.text
            have hym : List.take j (l.map Dat.str) ++ [Dat.str e.text] ++ List.take (l.length - j) (List.drop j (l.map Dat.str)) = (insOne l e.text).map .str := by
              have h2 : ((l.map Dat.str).drop j).take (l.length - j) = (l.map .str).drop j := List.take_of_length_le (by simp)
              rw [h2, hins]
              simp [List.map_take, List.map_drop]
            refine ⟨by simp, ⟨by omega, by omega, by omega⟩, ⟨by decide, by simp; omega, ?_⟩, by simp [Dat.cells], by simp; omega, rfl, ⟨by omega, by omega, by omega⟩, by simp; omega, ?_⟩
            · intro y hy
              obtain ⟨z, _, rfl⟩ := List.mem_map.1 (List.mem_of_mem_take hy)
              rfl
            rw [hym]
            generalize insOne l e.text = l2 at *
            clear hlow hpos hs
            refine wpc_loop (fun r s => ∃ (j : Nat) (m : Int) (ys : List Str), j ≤ e.args.length ∧ r = e.args.length - j ∧ 0 ≤ m ∧ m ≤ 256 ∧ (foldE (eF k) m (e.args.drop j)).1 = 0 ∧ (ys.length : Int) ≤ m ∧ (e.args.drop j).foldl (pthL k) ys = R ∧
              s = ⟨[(0, .d (.list 1 (ys.map .str))), (3, .ref 3 0), (7, .d (.int .i64 j))], [(3, .box [.d (.int .i64 e.op), .d (.int .i64 e.int), .d (.str e.text), .d (.list 6 (e.value.map encV)), .d (.list 5 (e.args.map encE))])]⟩) ?_ ?_
            · refine ⟨_, _, (Wk.frzT 0 43 2 1 (l2.map .str) rfl rfl).trans (Wk.less ?_), 0, n + 1, l2, Nat.zero_le _, rfl, by omega, hn1, hz, by omega, hR, rfl⟩
              simp [put, go_sem]
            · rintro r s ⟨j, m, ys, hj, rfl, hm0, hm1, hi1, hyl, hi2, rfl⟩
              by_cases hlt : j < e.args.length
              · have hx' := nth_encE hlt
                have hd' : decide ((j : Int) < (e.args.length : Int)) = true := by simp; omega
                rw [List.drop_eq_getElem_cons hlt] at hi1 hi2
                obtain ⟨q1, q2⟩ := foldE_cons hi1
                rw [q2] at hi1
                rw [List.foldl_cons] at hi2
                have hc := (ih m e.args[j] ys hm0 hm1 q1 hyl).call trivial
                have hn' := eF_n k m e.args[j] hm0 hm1
                have hpl := pF_len k m e.args[j] q1
                have hql := pthL_len k ys e.args[j]
                rw [encE_eq] at hc
                simp only [go_sem, hx', hd', Int.toNat_natCast, List.length_map, Nat.reduceAdd, Nat.reduceEqDiff, Nat.reduceBEq, Nat.reduceLeDiff, reduceCtorEq, ↓reduceIte]
                refine ⟨by omega, wps_call rfl hc trivial ?_⟩
                simp only [go_sem, Nat.reduceAdd, Nat.reduceEqDiff, Nat.reduceBEq, Nat.reduceLeDiff, reduceCtorEq, ↓reduceIte]
                refine ⟨e.args.length - (j + 1), _, by omega, Wk.less ?_, j + 1, (eF k m e.args[j]).2, pthL k ys e.args[j], by omega, rfl, hn'.1, hn'.2, hi1, by omega, hi2, rfl⟩
                simp [go_sem, wrap64s j (by omega)]
              · have hd' : decide ((j : Int) < (e.args.length : Int)) = false := by simp; omega
                obtain rfl : j = e.args.length := by omega
                rw [List.drop_length, List.foldl_nil] at hi2
                subst hi2
                simp only [go_sem, hd', canonL_strs, List.length_map, Nat.reduceAdd, Nat.reduceEqDiff, Nat.reduceBEq, Nat.reduceLeDiff, reduceCtorEq, ↓reduceIte]
          · have hq : l[j] = e.text := by simpa using hq
            have hins : insOne l e.text = l := by
              unfold insOne
              rw [hpos, if_pos (by simp [hjl, hq])]
            rw [hins] at hR
            clear hlow hpos hs
            refine wpc_loop (fun r s => ∃ (j : Nat) (m : Int) (ys : List Str), j ≤ e.args.length ∧ r = e.args.length - j ∧ 0 ≤ m ∧ m ≤ 256 ∧ (foldE (eF k) m (e.args.drop j)).1 = 0 ∧ (ys.length : Int) ≤ m ∧ (e.args.drop j).foldl (pthL k) ys = R ∧
              s = ⟨[(0, .d (.list 1 (ys.map .str))), (3, .ref 3 0), (7, .d (.int .i64 j))], [(3, .box [.d (.int .i64 e.op), .d (.int .i64 e.int), .d (.str e.text), .d (.list 6 (e.value.map encV)), .d (.list 5 (e.args.map encE))])]⟩) ?_ ?_
            · refine ⟨_, _, Wk.less ?_, 0, n + 1, l, Nat.zero_le _, rfl, by omega, hn1, hz, by omega, hR, rfl⟩
              simp [put, go_sem]
            · rintro r s ⟨j, m, ys, hj, rfl, hm0, hm1, hi1, hyl, hi2, rfl⟩
              by_cases hlt : j < e.args.length
              · have hx' := nth_encE hlt
                have hd' : decide ((j : Int) < (e.args.length : Int)) = true := by simp; omega
                rw [List.drop_eq_getElem_cons hlt] at hi1 hi2
                obtain ⟨q1, q2⟩ := foldE_cons hi1
                rw [q2] at hi1
                rw [List.foldl_cons] at hi2
                have hc := (ih m e.args[j] ys hm0 hm1 q1 hyl).call trivial
                have hn' := eF_n k m e.args[j] hm0 hm1
                have hpl := pF_len k m e.args[j] q1
                have hql := pthL_len k ys e.args[j]
                rw [encE_eq] at hc
                simp only [go_sem, hx', hd', Int.toNat_natCast, List.length_map, Nat.reduceAdd, Nat.reduceEqDiff, Nat.reduceBEq, Nat.reduceLeDiff, reduceCtorEq, ↓reduceIte]
                refine ⟨by omega, wps_call rfl hc trivial ?_⟩
                simp only [go_sem, Nat.reduceAdd, Nat.reduceEqDiff, Nat.reduceBEq, Nat.reduceLeDiff, reduceCtorEq, ↓reduceIte]
                refine ⟨e.args.length - (j + 1), _, by omega, Wk.less ?_, j + 1, (eF k m e.args[j]).2, pthL k ys e.args[j], by omega, rfl, hn'.1, hn'.2, hi1, by omega, hi2, rfl⟩
                simp [go_sem, wrap64s j (by omega)]
              · have hd' : decide ((j : Int) < (e.args.length : Int)) = false := by simp; omega
                obtain rfl : j = e.args.length := by omega
                rw [List.drop_length, List.foldl_nil] at hi2
                subst hi2
                simp only [go_sem, hd', canonL_strs, List.length_map, Nat.reduceAdd, Nat.reduceEqDiff, Nat.reduceBEq, Nat.reduceLeDiff, reduceCtorEq, ↓reduceIte]
        · have hd2 : decide ((j : Int) < (l.length : Int)) = false := by simp; omega
          obtain rfl : j = l.length := by omega
          have hpos : posS l e.text = l.length := posS_eq l e.text l.length hj hlow (fun h => by omega)
          have hins : insOne l e.text = l ++ [e.text] := by
            unfold insOne
            rw [hpos, if_neg (by simp)]
            simp
          simp only [go_sem, hd2, Int.sub_self, Int.sub_zero, Int.toNat_zero, Int.toNat_natCast, List.take_zero, List.length_nil, List.length_map, Nat.reduceAdd, Nat.reduceEqDiff, Nat.reduceBEq, Nat.reduceLeDiff, reduceCtorEq, ↓reduceIte]
          have hil := insOne_len l e.text
          have hym : List.take l.length (l.map Dat.str) ++ [Dat.str e.text] = (insOne l e.text).map .str := by
            rw [List.take_of_length_le (by simp), hins]
            simp
          refine ⟨by simp, ⟨by omega, by omega, by omega⟩, ⟨by decide, by simp; omega, ?_⟩, by simp [Dat.cells], by simp; omega, rfl, ⟨by omega, by omega⟩, by simp; omega, ?_⟩
          · intro y hy
            obtain ⟨z, _, rfl⟩ := List.mem_map.1 (List.mem_of_mem_take hy)
            rfl
          rw [hym]
          clear hym
          generalize insOne l e.text = l2 at *
          clear hlow hpos
          refine wpc_loop (fun r s => ∃ (j : Nat) (m : Int) (ys : List Str), j ≤ e.args.length ∧ r = e.args.length - j ∧ 0 ≤ m ∧ m ≤ 256 ∧ (foldE (eF k) m (e.args.drop j)).1 = 0 ∧ (ys.length : Int) ≤ m ∧ (e.args.drop j).foldl (pthL k) ys = R ∧
            s = ⟨[(0, .d (.list 1 (ys.map .str))), (3, .ref 3 0), (7, .d (.int .i64 j))], [(3, .box [.d (.int .i64 e.op), .d (.int .i64 e.int), .d (.str e.text), .d (.list 6 (e.value.map encV)), .d (.list 5 (e.args.map encE))])]⟩) ?_ ?_
          · refine ⟨_, _, (Wk.frzT 0 43 2 1 (l2.map .str) rfl rfl).trans (Wk.less ?_), 0, n + 1, l2, Nat.zero_le _, rfl, by omega, hn1, hz, by omega, hR, rfl⟩
            simp [put, go_sem]
          · rintro r s ⟨j, m, ys, hj, rfl, hm0, hm1, hi1, hyl, hi2, rfl⟩
            by_cases hlt : j < e.args.length
            · have hx' := nth_encE hlt
              have hd' : decide ((j : Int) < (e.args.length : Int)) = true := by simp; omega
              rw [List.drop_eq_getElem_cons hlt] at hi1 hi2
              obtain ⟨q1, q2⟩ := foldE_cons hi1
              rw [q2] at hi1
              rw [List.foldl_cons] at hi2
              have hc := (ih m e.args[j] ys hm0 hm1 q1 hyl).call trivial
              have hn' := eF_n k m e.args[j] hm0 hm1
              have hpl := pF_len k m e.args[j] q1
              have hql := pthL_len k ys e.args[j]
              rw [encE_eq] at hc
              simp only [go_sem, hx', hd', Int.toNat_natCast, List.length_map, Nat.reduceAdd, Nat.reduceEqDiff, Nat.reduceBEq, Nat.reduceLeDiff, reduceCtorEq, ↓reduceIte]
              refine ⟨by omega, wps_call rfl hc trivial ?_⟩
              simp only [go_sem, Nat.reduceAdd, Nat.reduceEqDiff, Nat.reduceBEq, Nat.reduceLeDiff, reduceCtorEq, ↓reduceIte]
              refine ⟨e.args.length - (j + 1), _, by omega, Wk.less ?_, j + 1, (eF k m e.args[j]).2, pthL k ys e.args[j], by omega, rfl, hn'.1, hn'.2, hi1, by omega, hi2, rfl⟩
              simp [go_sem, wrap64s j (by omega)]
            · have hd' : decide ((j : Int) < (e.args.length : Int)) = false := by simp; omega
              obtain rfl : j = e.args.length := by omega
              rw [List.drop_length, List.foldl_nil] at hi2
              subst hi2
              simp only [go_sem, hd', canonL_strs, List.length_map, Nat.reduceAdd, Nat.reduceEqDiff, Nat.reduceBEq, Nat.reduceLeDiff, reduceCtorEq, ↓reduceIte]
    · rw [hp] at hR
      simp only [Bool.false_eq_true, ↓reduceIte] at hR
      refine wpc_loop (fun r s => ∃ (j : Nat) (m : Int) (ys : List Str), j ≤ e.args.length ∧ r = e.args.length - j ∧ 0 ≤ m ∧ m ≤ 256 ∧ (foldE (eF k) m (e.args.drop j)).1 = 0 ∧ (ys.length : Int) ≤ m ∧ (e.args.drop j).foldl (pthL k) ys = R ∧
        s = ⟨[(0, .d (.list 1 (ys.map .str))), (3, .ref 3 0), (7, .d (.int .i64 j))], [(3, .box [.d (.int .i64 e.op), .d (.int .i64 e.int), .d (.str e.text), .d (.list 6 (e.value.map encV)), .d (.list 5 (e.args.map encE))])]⟩) ?_ ?_
      · refine ⟨_, _, Wk.less ?_, 0, n + 1, l, Nat.zero_le _, rfl, by omega, hn1, hz, by omega, hR, rfl⟩
        simp [put, go_sem]
      · rintro r s ⟨j, m, ys, hj, rfl, hm0, hm1, hi1, hyl, hi2, rfl⟩
        by_cases hlt : j < e.args.length
        · have hx' := nth_encE hlt
          have hd' : decide ((j : Int) < (e.args.length : Int)) = true := by simp; omega
          rw [List.drop_eq_getElem_cons hlt] at hi1 hi2
          obtain ⟨q1, q2⟩ := foldE_cons hi1
          rw [q2] at hi1
          rw [List.foldl_cons] at hi2
          have hc := (ih m e.args[j] ys hm0 hm1 q1 hyl).call trivial
          have hn' := eF_n k m e.args[j] hm0 hm1
          have hpl := pF_len k m e.args[j] q1
          have hql := pthL_len k ys e.args[j]
          rw [encE_eq] at hc
          simp only [go_sem, hx', hd', Int.toNat_natCast, List.length_map, Nat.reduceAdd, Nat.reduceEqDiff, Nat.reduceBEq, Nat.reduceLeDiff, reduceCtorEq, ↓reduceIte]
          refine ⟨by omega, wps_call rfl hc trivial ?_⟩
          simp only [go_sem, Nat.reduceAdd, Nat.reduceEqDiff, Nat.reduceBEq, Nat.reduceLeDiff, reduceCtorEq, ↓reduceIte]
          refine ⟨e.args.length - (j + 1), _, by omega, Wk.less ?_, j + 1, (eF k m e.args[j]).2, pthL k ys e.args[j], by omega, rfl, hn'.1, hn'.2, hi1, by omega, hi2, rfl⟩
          simp [go_sem, wrap64s j (by omega)]
        · have hd' : decide ((j : Int) < (e.args.length : Int)) = false := by simp; omega
          obtain rfl : j = e.args.length := by omega
          rw [List.drop_length, List.foldl_nil] at hi2
          subst hi2
          simp only [go_sem, hd', canonL_strs, List.length_map, Nat.reduceAdd, Nat.reduceEqDiff, Nat.reduceBEq, Nat.reduceLeDiff, reduceCtorEq, ↓reduceIte]
end Go.Proofs
/- The law ExprPaths. -/
set_option linter.unusedSimpArgs false
set_option linter.unusedVariables false
set_option maxRecDepth 10000
namespace Go.Proofs
open Go Av

theorem pathsE_pth (e : Exp) (h : chkX e = 0) : pathsE e = pthL 8 [] e := by
  rw [pathsE, if_neg (by simp [h]), uniq_sort, pthL_eq]
  rfl
theorem walk6 (e : Exp) (hN : okN e) (h20 : PCon Tryz.prog 20 [] (.d (.bool true))) : PCon Tryz.prog 6 [encE e] (.d (.bool true)) := by
  have c20 := h20.call trivial
  have c25 := (walk25 e).call trivial
  have c26 := (walk26 e hN).call trivial
  have hpl : (pathsE e).length ≤ 256 := by
    by_cases h : chkX e = 0
    · rw [pathsE_pth e h]
      have h1 := pthL_len 8 [] e
      have h2 := pF_le e h
      simp only [List.length_nil] at h1
      omega
    · rw [pathsE, if_pos h]; simp
  refine ok6.pcon (Nat.le_of_ble_eq_true rfl) trivial ?_
  have fin : True := trivial
  by_cases hx : chkX e = 0
  · have c27 : CallOK Tryz.prog (.fn 27) [.d (.nil 1), .d (encE e)] [] (.d (.list 1 ((pathsE e).map .str))) [] := by
      refine CallOK.canon ?_
      have := (walk27 8 0 e [] (by decide) (by decide) hx (by simp)).call trivial
      rw [pathsE_pth e hx]
      simpa [Av.canon, Dat.canon, canonL, canon_encE] using this
    have b0 : (chkX e == 0) = true := by simp [hx]
    generalize pathsE e = ps at *
    rw [encE_eq] at c25 c26 c27 ⊢
    simp only [go_sem, ir6, Nat.reduceAdd, Nat.reduceEqDiff, Nat.reduceBEq, Nat.reduceLeDiff, reduceCtorEq, ↓reduceIte]
    refine wps_call rfl c25 trivial ?_
    simp only [go_sem, Nat.reduceAdd, Nat.reduceEqDiff, Nat.reduceBEq, Nat.reduceLeDiff, reduceCtorEq, ↓reduceIte]
    refine wps_call rfl c26 trivial ?_
    simp only [go_sem, b0, Nat.reduceAdd, Nat.reduceEqDiff, Nat.reduceBEq, Nat.reduceLeDiff, reduceCtorEq, ↓reduceIte]
    refine wps_call rfl c27 trivial ?_
    simp only [go_sem, Nat.reduceAdd, Nat.reduceEqDiff, Nat.reduceBEq, Nat.reduceLeDiff, reduceCtorEq, ↓reduceIte]
    refine wps_call rfl c20 trivial ?_
    simp only [go_sem, Bool.not_true, bne_self_eq_false, List.length_map, Nat.reduceAdd, Nat.reduceEqDiff, Nat.reduceBEq, Nat.reduceLeDiff, reduceCtorEq, ↓reduceIte]
    refine wpc_loop (fun r s => ∃ (k : Nat), k ≤ ps.length ∧ r = ps.length - k ∧
      s = ⟨[(3, .d (.list 1 (ps.map .str))), (4, .d (.list 1 (ps.map .str))), (5, .d (.int .i64 k))], []⟩) ?_ ?_
    · refine ⟨_, _, Wk.less ?_, 0, Nat.zero_le _, rfl, rfl⟩
      simp [go_sem]
    · rintro r s ⟨k, hk, rfl, rfl⟩
      by_cases hlt : k < ps.length
      · have hy := nth_str hlt
        have hd : decide ((k : Int) < (ps.length : Int)) = true := by simp; omega
        have hb : (!(ps[k] == ps[k])) = false := by simp
        simp only [go_sem, hy, hd, hb, Int.toNat_natCast, List.length_map, Nat.reduceAdd, Nat.reduceEqDiff, Nat.reduceBEq, Nat.reduceLeDiff, reduceCtorEq, ↓reduceIte]
        refine ⟨⟨by omega, by omega⟩, by decide, ⟨by omega, by omega⟩, by decide, fun h => by simp at h, fun _ => ⟨ps.length - (k + 1), _, by omega, Wk.less ?_, k + 1, by omega, rfl, rfl⟩⟩
        simp only [go_sem, wrap64s k (by omega), Nat.reduceAdd, Nat.reduceEqDiff, Nat.reduceBEq, Nat.reduceLeDiff, reduceCtorEq, ↓reduceIte]
      · have hd : decide ((k : Int) < (ps.length : Int)) = false := by simp; omega
        obtain rfl : k = ps.length := by omega
        simp only [go_sem, hd, List.length_map, Nat.reduceAdd, Nat.reduceEqDiff, Nat.reduceBEq, Nat.reduceLeDiff, reduceCtorEq, ↓reduceIte]
  · have b0 : (chkX e == 0) = false := by simp [hx]
    have hp : pathsE e = [] := by rw [pathsE, if_pos hx]
    rw [hp] at c25
    rw [encE_eq] at c25 c26 ⊢
    simp only [go_sem, ir6, Nat.reduceAdd, Nat.reduceEqDiff, Nat.reduceBEq, Nat.reduceLeDiff, reduceCtorEq, ↓reduceIte]
    refine wps_call rfl c25 trivial ?_
    simp only [go_sem, Nat.reduceAdd, Nat.reduceEqDiff, Nat.reduceBEq, Nat.reduceLeDiff, reduceCtorEq, ↓reduceIte]
    refine wps_call rfl c26 trivial ?_
    simp only [go_sem, b0, Nat.reduceAdd, Nat.reduceEqDiff, Nat.reduceBEq, Nat.reduceLeDiff, reduceCtorEq, ↓reduceIte]
    refine wps_call rfl c20 trivial ?_
    simp only [go_sem, Bool.not_true, bne_self_eq_false, List.map_nil, List.length_nil, Nat.reduceAdd, Nat.reduceEqDiff, Nat.reduceBEq, Nat.reduceLeDiff, reduceCtorEq, ↓reduceIte]
    refine wpc_loop (fun r s => ∃ (k : Nat), r = k ∧ s = ⟨[(3, .d (.list 1 [])), (4, .d (.nil 1)), (5, .d (.int .i64 0))], []⟩) ?_ ?_
    · refine ⟨_, _, Wk.less ?_, 0, rfl, rfl⟩
      simp [go_sem]
    · rintro r s ⟨k, rfl, rfl⟩
      have hd : decide ((0 : Int) < ((0 : Nat) : Int)) = false := by decide
      simp only [go_sem, hd, List.length_nil, Nat.reduceAdd, Nat.reduceEqDiff, Nat.reduceBEq, Nat.reduceLeDiff, reduceCtorEq, ↓reduceIte]
end Go.Proofs
