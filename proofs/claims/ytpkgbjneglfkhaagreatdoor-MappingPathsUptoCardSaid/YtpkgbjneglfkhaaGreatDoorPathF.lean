/- The kit's shelf laid at this seat's program: slices.Sort and slices.Compact of strings (printed by the kit's lay-shelf.mjs and lay-plain.mjs). -/
import Derived.Shelf.Sort.Plain
import Derived.Shelf.Slices.In.SortNone
import Derived.Shelf.Slices.CompactS
import Derived.Ground.Names2Prog
import Derived.Test.YtpkgbjneglfkhaaGreatDoorProg
import Derived.Test.YtpkgbjneglfkhaaGreatDoorPathE
import Derived.Test.YtpkgbjneglfkhaaGreatDoorAvD
set_option linter.unusedVariables false
set_option linter.unusedSimpArgs false
set_option linter.unusedSectionVars false
namespace Go.Proofs
open Go.Shelf
def Tryz.laysSort_ren : Go.Shelf.Ren := ⟨fun | 190 => 100 | 125 => 181 | 258 => 180 | 128 => 231 | 129 => 232 | 302 => 222 | 303 => 223 | 304 => 224 | 305 => 225 | 306 => 226 | 307 => 227 | 308 => 228 | 309 => 229 | 310 => 230 | 333 => 274 | 329 => 275 | 330 => 276 | 334 => 277 | 335 => 278 | 336 => 279 | 344 => 328 | n => n, fun | 31 => 22 | 9 => 9 | 3 => 3 | 46 => 244 | 0 => 0 | 51 => 297 | 53 => 299 | 4 => 4 | 183 => 291 | 182 => 290 | 131 => 127 | 5 => 5 | 218 => 328 | 222 => 166 | 228 => 376 | 229 => 286 | n => n, fun | n => n⟩
theorem Tryz.laysSort : Go.Proofs.Lays.n190 Tryz.prog Tryz.laysSort_ren := {
  mixed := by kernel_rfl
  f125 := Tryz.func181.trans (congrArg some (by kernel_rfl))
  f128 := Tryz.func231.trans (congrArg some (by kernel_rfl))
  f129 := Tryz.func232.trans (congrArg some (by kernel_rfl))
  f190 := Tryz.func100.trans (congrArg some (by kernel_rfl))
  f258 := Tryz.func180.trans (congrArg some (by kernel_rfl))
  f302 := Tryz.func222.trans (congrArg some (by kernel_rfl))
  f303 := Tryz.func223.trans (congrArg some (by kernel_rfl))
  f304 := Tryz.func224.trans (congrArg some (by kernel_rfl))
  f305 := Tryz.func225.trans (congrArg some (by kernel_rfl))
  f306 := Tryz.func226.trans (congrArg some (by kernel_rfl))
  f307 := Tryz.func227.trans (congrArg some (by kernel_rfl))
  f308 := Tryz.func228.trans (congrArg some (by kernel_rfl))
  f309 := Tryz.func229.trans (congrArg some (by kernel_rfl))
  f310 := Tryz.func230.trans (congrArg some (by kernel_rfl))
  f329 := Tryz.func275.trans (congrArg some (by kernel_rfl))
  f330 := Tryz.func276.trans (congrArg some (by kernel_rfl))
  f333 := Tryz.func274.trans (congrArg some (by kernel_rfl))
  f334 := Tryz.func277.trans (congrArg some (by kernel_rfl))
  f335 := Tryz.func278.trans (congrArg some (by kernel_rfl))
  f336 := Tryz.func279.trans (congrArg some (by kernel_rfl))
  f344 := Tryz.func328.trans (congrArg some (by kernel_rfl))
  t0 := Tryz.underlying0
  a0 := Tryz.isAgg0
  z0 := Tryz.sizeOf0
  v0 := Tryz.zeroValue0
  t3 := Tryz.underlying3
  a3 := Tryz.isAgg3
  z3 := Tryz.sizeOf3
  v3 := Tryz.zeroValue3
  t4 := Tryz.underlying4
  a4 := Tryz.isAgg4
  z4 := Tryz.sizeOf4
  v4 := Tryz.zeroValue4
  t5 := Tryz.underlying5
  a5 := Tryz.isAgg5
  z5 := Tryz.sizeOf5
  v5 := Tryz.zeroValue5
  t9 := Tryz.underlying9
  a9 := Tryz.isAgg9
  z9 := Tryz.sizeOf9
  v9 := Tryz.zeroValue9
  t31 := Tryz.underlying22
  a31 := Tryz.isAgg22
  z31 := Tryz.sizeOf22
  v31 := Tryz.zeroValue22
  t46 := Tryz.underlying244
  a46 := Tryz.isAgg244
  z46 := Tryz.sizeOf244
  v46 := Tryz.zeroValue244
  t51 := Tryz.underlying297
  a51 := Tryz.isAgg297
  z51 := Tryz.sizeOf297
  v51 := Tryz.zeroValue297
  t53 := Tryz.underlying299
  a53 := Tryz.isAgg299
  z53 := Tryz.sizeOf299
  v53 := Tryz.zeroValue299
  t131 := Tryz.underlying127
  a131 := Tryz.isAgg127
  z131 := Tryz.sizeOf127
  v131 := Tryz.zeroValue127
  t182 := Tryz.underlying290
  a182 := Tryz.isAgg290
  z182 := Tryz.sizeOf290
  v182 := Tryz.zeroValue290
  t183 := Tryz.underlying291
  a183 := Tryz.isAgg291
  z183 := Tryz.sizeOf291
  v183 := Tryz.zeroValue291
  t218 := Tryz.underlying328
  a218 := Tryz.isAgg328
  z218 := Tryz.sizeOf328
  v218 := Tryz.zeroValue328
  t222 := Tryz.underlying166
  a222 := Tryz.isAgg166
  z222 := Tryz.sizeOf166
  v222 := Tryz.zeroValue166
  t228 := Tryz.underlying376
  a228 := Tryz.isAgg376
  z228 := Tryz.sizeOf376
  v228 := Tryz.zeroValue376
  t229 := Tryz.underlying286
  a229 := Tryz.isAgg286
  z229 := Tryz.sizeOf286
  v229 := Tryz.zeroValue286 }
def Tryz.laysCompact_ren : Go.Shelf.Ren := ⟨fun | 194 => 101 | n => n, fun | 31 => 22 | 9 => 9 | 3 => 3 | 4 => 4 | 0 => 0 | n => n, fun | n => n⟩
theorem Tryz.laysCompact : Go.Proofs.Lays.n194 Tryz.prog Tryz.laysCompact_ren := {
  mixed := by kernel_rfl
  f194 := Tryz.func101.trans (congrArg some (by kernel_rfl))
  t0 := Tryz.underlying0
  a0 := Tryz.isAgg0
  z0 := Tryz.sizeOf0
  v0 := Tryz.zeroValue0
  t3 := Tryz.underlying3
  a3 := Tryz.isAgg3
  z3 := Tryz.sizeOf3
  v3 := Tryz.zeroValue3
  t4 := Tryz.underlying4
  a4 := Tryz.isAgg4
  z4 := Tryz.sizeOf4
  v4 := Tryz.zeroValue4
  t9 := Tryz.underlying9
  a9 := Tryz.isAgg9
  z9 := Tryz.sizeOf9
  v9 := Tryz.zeroValue9
  t31 := Tryz.underlying22
  a31 := Tryz.isAgg22
  z31 := Tryz.sizeOf22
  v31 := Tryz.zeroValue22 }
end Go.Proofs
/- expr.Paths. -/
set_option linter.unusedSimpArgs false
set_option linter.unusedVariables false
set_option maxRecDepth 10000
namespace Go.Proofs
open Go Av

/-- repeated neighbours go -/
def uniqF : Option Str → List Str → List Str
  | _, [] => []
  | p, x :: r => if p = some x then uniqF (some x) r else x :: uniqF (some x) r
def uniq (l : List Str) : List Str := uniqF none l
theorem uniqF_one : ∀ (l : List Str) (p : Option Str) (x : Str), uniqF p (l ++ [x]) = uniqF p l ++ (if (l.getLast?.or p) = some x then [] else [x])
  | [], p, x => by
    have e : (([] : List Str).getLast?.or p) = p := by simp
    rw [e]
    simp only [List.nil_append, uniqF]
  | y :: r, p, x => by
    have e : ((y :: r).getLast?.or p) = (r.getLast?.or (some y)) := by
      cases r with
      | nil => simp
      | cons z q => simp [List.getLast?_cons_cons, List.getLast?_cons]
    rw [e]
    simp only [List.cons_append, uniqF, uniqF_one r (some y) x]
    split <;> simp
theorem uniqF_sub : ∀ (l : List Str) (p : Option Str), (uniqF p l).Sublist l
  | [], p => by simp [uniqF]
  | x :: r, p => by
    simp only [uniqF]
    split
    · exact (uniqF_sub r _).cons x
    · exact (uniqF_sub r _).cons_cons x
theorem compactUpTo_uniq (zs : List Str) : ∀ m, m ≤ zs.length → Lib.compactUpTo zs.toArray m = uniq (zs.take m)
  | 0, _ => by simp [Lib.compactUpTo, uniq, uniqF]
  | m + 1, h => by
    rw [Lib.compactUpTo_succ, compactUpTo_uniq zs m (by omega), List.take_succ_eq_append_getElem (by omega)]
    unfold uniq
    rw [uniqF_one]
    congr 1
    have e1 : zs.toArray[m]! = zs[m] := by rw [getElem!_pos _ _ (by simp; omega)]; simp
    rw [e1]
    cases m with
    | zero =>
      have : Lib.keeps zs.toArray 0 = true := by simp [Lib.keeps]
      simp [this]
    | succ k =>
      have e2 : zs.toArray[k]! = zs[k] := by rw [getElem!_pos _ _ (by simp; omega)]; simp
      have e3 : (zs.take (k + 1)).getLast? = some zs[k] := by
        rw [List.take_succ_eq_append_getElem (by omega), List.getLast?_concat]
      rw [e3]
      simp only [Lib.keeps, e1, Nat.add_sub_cancel, e2, Option.some_or, Option.some.injEq]
      by_cases hq : zs[k] = zs[k + 1]
      · simp [hq]
      · have : zs[k + 1] ≠ zs[k] := fun e => hq e.symm
        simp [hq, this]
theorem compact_uniq (zs : List Str) : Lib.compact zs = uniq zs := by
  rw [Lib.compact, compactUpTo_uniq zs _ (Nat.le_refl _), List.take_length]

theorem call100 (i v : Nat) (ss : List Str) : CallOK Tryz.prog 100 [.ms i v] [(i, some (.row v 1 (ss.map .str)))] (.tup []) [(i, .row v 1 ((sortS ss).map .str))] :=
  CallOK.sort (hasT Tryz.func100 (by kernel_rfl) (by kernel_rfl)) (fun b cap ss w h1 h2 h3 => Any.slices_Sort_string Tryz.laysSort b 0 cap ss w h1 h2 h3) (fun a cap w => Any.slices_Sort_string_none Tryz.laysSort a cap w) i v ss
theorem call101 (i v : Nat) (ss : List Str) : CallOK Tryz.prog 101 [.ms i v] [(i, some (.row v 1 (ss.map .str)))] (.ms i (v + 1)) [(i, .row (v + 1) 1 ((uniq ss).map .str))] := by
  rw [← compact_uniq]
  exact CallOK.compact (hasT Tryz.func101 (by kernel_rfl) (by kernel_rfl)) (fun b cap ss w h1 h2 h3 => Any.slices_Compact_string Tryz.laysCompact b 0 cap ss w h1 h2 h3) (fun a cap w => Any.slices_Compact_string_empty Tryz.laysCompact a cap w)
    (fun ss => by rw [compact_uniq]; exact uniqF_sub ss none) i v ss

/-- the paths of an expression, in the order of the walk -/
def pF : Nat → Exp → List Str
  | 0, _ => []
  | k + 1, e => (if pathedB e.op then [e.text] else []) ++ e.args.flatMap (pF k)
theorem foldE_cons {f : Int → Exp → Int × Int} {n : Int} {v : Exp} {r : List Exp} (h : (foldE f n (v :: r)).1 = 0) : (f n v).1 = 0 ∧ foldE f n (v :: r) = foldE f (f n v).2 r := by
  simp only [foldE] at h ⊢
  split at h
  · rename_i hx; exact absurd h hx
  · rename_i hx
    simp only [ne_eq, Decidable.not_not] at hx
    rw [if_neg (by simp [hx])]
    exact ⟨hx, rfl⟩
theorem eF_succ {k : Nat} {n : Int} {e : Exp} (h : (eF (k + 1) n e).1 = 0) : eF (k + 1) n e = foldE (eF k) (n + 1) e.args := by
  simp only [eF] at h ⊢
  split at h
  · cases h
  · rename_i h1
    rw [if_neg h1]
    split at h
    · rename_i h2; exact absurd h h2
    · rename_i h2; rw [if_neg h2]
theorem eF_zero (n : Int) (e : Exp) : (eF 0 n e).1 ≠ 0 := by
  simp only [eF]
  split <;> simp
theorem foldE_len {f : Int → Exp → Int × Int} {g : Exp → List Str} (hf : ∀ n v, (f n v).1 = 0 → n + ((g v).length : Int) ≤ (f n v).2) : ∀ (l : List Exp) (n : Int), (foldE f n l).1 = 0 → n + ((l.flatMap g).length : Int) ≤ (foldE f n l).2
  | [], n, h => by simp [foldE]
  | v :: r, n, h => by
    obtain ⟨h1, h2⟩ := foldE_cons h
    rw [h2] at h ⊢
    have q1 := hf n v h1
    have q2 := foldE_len hf r _ h
    simp only [List.flatMap_cons, List.length_append] at q2 ⊢
    push_cast
    omega
theorem pF_len : ∀ (k : Nat) (n : Int) (e : Exp), (eF k n e).1 = 0 → n + ((pF k e).length : Int) ≤ (eF k n e).2
  | 0, n, e, h => absurd h (eF_zero n e)
  | k + 1, n, e, h => by
    have e1 := eF_succ h
    rw [e1] at h ⊢
    have := foldE_len (g := pF k) (fun n v hv => pF_len k n v hv) e.args (n + 1) h
    have hb : ((if pathedB e.op then [e.text] else []) : List Str).length ≤ 1 := by split <;> simp
    simp only [pF, List.length_append]
    push_cast
    omega

abbrev clo98 : Av := .clo (.func 98) [] [.ref 1000 0, .ref 1001 0]
abbrev TP (xs : List Str) : List (Nat × Av.Obj) := [(1000, .box [.ms 1002 xs.length]), (1001, .box [clo98]), (1002, .row xs.length 1 (xs.map .str))]
abbrev upsP (xs : List Str) : List (Nat × Av.Obj) := [(1000, .box [.ms 1002 xs.length]), (1002, .row xs.length 1 (xs.map .str))]
theorem TP_closed (xs : List Str) : closed (get (TP xs)) := by
  refine closed_of ?_
  simp [closedH, objIn, idsInL, idsIn, Av.get]
theorem TP_ups (xs ys : List Str) : hputs (get (TP xs)) (upsP ys) = get (TP ys) := by rw [← get_puts]; rfl
theorem TP_dom {xs : List Str} {i : Nat} (h : (get (TP xs) i).isSome = true) : i = 1000 ∨ i = 1001 ∨ i = 1002 := by
  simp only [TP, Av.get] at h
  split at h
  · rename_i e; exact .inl e.symm
  · split at h
    · rename_i e; exact .inr (.inl e.symm)
    · split at h
      · rename_i e; exact .inr (.inr e.symm)
      · cases h

theorem call98 {e : Exp} {xs ys : List Str} (h : Con Tryz.prog 98 [.d (encE e), .ref 1000 0, .ref 1001 0] (TP xs) (.tup []) (upsP ys)) (i j r : Nat) (h1 : i ≠ j) (h2 : i ≠ r) (h3 : j ≠ r) :
    CallOK Tryz.prog 98 [.d (encE e), .ref i 0, .ref j 0] [(i, some (.box [.ms r xs.length])), (j, some (.box [.clo (.func 98) [] [.ref i 0, .ref j 0]])), (r, some (.row xs.length 1 (xs.map .str)))] (.tup [])
      [(i, .box [.ms r ys.length]), (r, .row ys.length 1 (ys.map .str))] := by
  have := h.call (fun n => if n = 1000 then i else if n = 1001 then j else r) (fun k hk => by rcases TP_dom hk with rfl | rfl | rfl <;> decide) (fun a b ha hb e => ?_) (by simp [idsIn, Av.get]) (TP_closed xs) [] (by simp [Av.get])
    (by rw [TP_ups]; exact TP_closed ys) trivial
  · simp [Av.ren, Obj.ren, renL] at this
    exact this
  · rw [TP_ups] at ha hb
    rcases TP_dom ha with rfl | rfl | rfl <;> rcases TP_dom hb with rfl | rfl | rfl <;> simp at e <;> first | rfl | exact absurd e h1 | exact absurd e.symm h1 | exact absurd e h2 | exact absurd e.symm h2 | exact absurd e h3 | exact absurd e.symm h3

theorem walk98 : ∀ (k : Nat) (n : Int) (e : Exp) (xs : List Str), 0 ≤ n → n ≤ 256 → (eF k n e).1 = 0 → (xs.length : Int) ≤ n →
    Con Tryz.prog 98 [.d (encE e), .ref 1000 0, .ref 1001 0] (TP xs) (.tup []) (upsP (xs ++ pF k e)) := by
  intro k
  induction k with
  | zero => intro n e xs _ _ h _; exact absurd h (eF_zero n e)
  | succ k ih =>
    intro n e xs h0 h1 hz hl
    refine Con.of_fits ok98.has fun hfit => ?_
    obtain ⟨_, _, f3, _⟩ := fits_E (hfit (encE e) (by simp))
    have hF := eF_succ hz
    rw [hF] at hz
    refine ok98.con (k := false) (Nat.le_of_ble_eq_true rfl) (by rw [TP_ups]; exact TP_closed _) trivial ?_
    have h99 := (walk99 e.op).call trivial
    rw [encE_eq]
    simp only [TP, go_sem, ir98, Nat.reduceAdd, Nat.reduceEqDiff, Nat.reduceBEq, Nat.reduceLeDiff, reduceCtorEq, ↓reduceIte]
    refine wps_call rfl h99 trivial ?_
    simp only [go_sem, Nat.reduceAdd, Nat.reduceEqDiff, Nat.reduceBEq, Nat.reduceLeDiff, reduceCtorEq, ↓reduceIte]
    have hn1 : n + 1 ≤ 256 := by
      by_cases h256 : n = 256
      · rw [← hF, eF, if_pos h256] at hz; simp at hz
      · omega
    have hl' : xs.length ≤ 256 := by omega
    refine ⟨fun hp => ⟨by simp, by simp; omega, ?_⟩, fun hp => ?_⟩
    · have e1 : (1002, Av.Obj.row (xs.length + 1) 1 (List.map Dat.str xs ++ [Dat.str e.text])) = (1002, Av.Obj.row (xs ++ [e.text]).length 1 ((xs ++ [e.text]).map .str)) := by simp
      have e2 : (1000, Av.Obj.box [Av.ms 1002 (xs.length + 1)]) = (1000, Av.Obj.box [Av.ms 1002 (xs ++ [e.text]).length]) := by simp
      rw [e1, e2]
      clear e1 e2
      clear hfit h99
      generalize hP : e.args = ps at *
      have hzl : ((xs ++ [e.text]).length : Int) ≤ n + 1 := by first | omega | (simp; omega)
      have hzz : xs ++ pF (k + 1) e = (xs ++ [e.text]) ++ ps.flatMap (pF k) := by rw [pF, if_pos hp, hP]; simp
      rw [hzz]
      simp only [List.length_map]
      refine wpc_loop (fun r s => ∃ (j : Nat) (m : Int) (ys : List Str), j ≤ ps.length ∧ r = ps.length - j ∧ 0 ≤ m ∧ m ≤ 256 ∧ (foldE (eF k) m (ps.drop j)).1 = 0 ∧ (ys.length : Int) ≤ m ∧ (xs ++ [e.text]) ++ ps.flatMap (pF k) = ys ++ (ps.drop j).flatMap (pF k) ∧
        s = ⟨[(1, .ref 1000 0), (2, .ref 1001 0), (15, .d (.list 5 (ps.map encE))), (16, .d (.int .i64 ps.length)), (17, .d (.int .i64 j))],
          [(1000, .box [.ms 1002 ys.length]), (1001, .box [clo98]), (1002, .row ys.length 1 (ys.map .str))]⟩) ?_ ?_
      · refine ⟨_, _, Wk.less ?_, 0, n + 1, xs ++ [e.text], Nat.zero_le _, rfl, by omega, hn1, hz, hzl, rfl, rfl⟩
        simp [go_sem]
      · rintro r s ⟨j, m, ys, hj, rfl, hm0, hm1, hinv, hyl, hyy, rfl⟩
        by_cases hlt : j < ps.length
        · have hx' := nth_encE hlt
          have hd' : decide ((j : Int) < (ps.length : Int)) = true := by simp; omega
          rw [List.drop_eq_getElem_cons hlt] at hinv hyy
          obtain ⟨q1, q2⟩ := foldE_cons hinv
          rw [q2] at hinv
          have hc := call98 (ih m ps[j] ys hm0 hm1 q1 hyl) 1000 1001 1002 (by decide) (by decide) (by decide)
          have hn' := eF_n k m ps[j] hm0 hm1
          have hpl := pF_len k m ps[j] q1
          rw [encE_eq] at hc
          simp only [go_sem, hx', hd', Int.toNat_natCast, List.length_map, Nat.reduceAdd, Nat.reduceEqDiff, Nat.reduceBEq, Nat.reduceLeDiff, reduceCtorEq, ↓reduceIte]
          refine ⟨by omega, wps_call rfl hc ⟨rfl, rfl, rfl, trivial⟩ ?_⟩
          simp only [go_sem, Nat.reduceAdd, Nat.reduceEqDiff, Nat.reduceBEq, Nat.reduceLeDiff, reduceCtorEq, ↓reduceIte]
          refine ⟨ps.length - (j + 1), _, by omega, Wk.less ?_, j + 1, (eF k m ps[j]).2, ys ++ pF k ps[j], by omega, rfl, hn'.1, hn'.2, hinv, by simp; omega, by rw [hyy, List.flatMap_cons, List.append_assoc], rfl⟩
          simp [go_sem, wrap64s j (by omega)]
        · have hd' : decide ((j : Int) < (ps.length : Int)) = false := by simp; omega
          obtain rfl : j = ps.length := by omega
          rw [List.drop_length] at hyy
          rw [hyy]
          simp only [List.flatMap_nil, List.append_nil]
          simp only [go_sem, hd', Nat.reduceAdd, Nat.reduceEqDiff, Nat.reduceBEq, Nat.reduceLeDiff, reduceCtorEq, ↓reduceIte]
    · skip
      clear hfit h99
      generalize hP : e.args = ps at *
      have hzl : ((xs).length : Int) ≤ n + 1 := by first | omega | (simp; omega)
      have hzz : xs ++ pF (k + 1) e = (xs) ++ ps.flatMap (pF k) := by rw [pF, if_neg (by simp [hp]), hP]; simp
      rw [hzz]
      simp only [List.length_map]
      refine wpc_loop (fun r s => ∃ (j : Nat) (m : Int) (ys : List Str), j ≤ ps.length ∧ r = ps.length - j ∧ 0 ≤ m ∧ m ≤ 256 ∧ (foldE (eF k) m (ps.drop j)).1 = 0 ∧ (ys.length : Int) ≤ m ∧ (xs) ++ ps.flatMap (pF k) = ys ++ (ps.drop j).flatMap (pF k) ∧
        s = ⟨[(1, .ref 1000 0), (2, .ref 1001 0), (15, .d (.list 5 (ps.map encE))), (16, .d (.int .i64 ps.length)), (17, .d (.int .i64 j))],
          [(1000, .box [.ms 1002 ys.length]), (1001, .box [clo98]), (1002, .row ys.length 1 (ys.map .str))]⟩) ?_ ?_
      · refine ⟨_, _, Wk.less ?_, 0, n + 1, xs, Nat.zero_le _, rfl, by omega, hn1, hz, hzl, rfl, rfl⟩
        simp [go_sem]
      · rintro r s ⟨j, m, ys, hj, rfl, hm0, hm1, hinv, hyl, hyy, rfl⟩
        by_cases hlt : j < ps.length
        · have hx' := nth_encE hlt
          have hd' : decide ((j : Int) < (ps.length : Int)) = true := by simp; omega
          rw [List.drop_eq_getElem_cons hlt] at hinv hyy
          obtain ⟨q1, q2⟩ := foldE_cons hinv
          rw [q2] at hinv
          have hc := call98 (ih m ps[j] ys hm0 hm1 q1 hyl) 1000 1001 1002 (by decide) (by decide) (by decide)
          have hn' := eF_n k m ps[j] hm0 hm1
          have hpl := pF_len k m ps[j] q1
          rw [encE_eq] at hc
          simp only [go_sem, hx', hd', Int.toNat_natCast, List.length_map, Nat.reduceAdd, Nat.reduceEqDiff, Nat.reduceBEq, Nat.reduceLeDiff, reduceCtorEq, ↓reduceIte]
          refine ⟨by omega, wps_call rfl hc ⟨rfl, rfl, rfl, trivial⟩ ?_⟩
          simp only [go_sem, Nat.reduceAdd, Nat.reduceEqDiff, Nat.reduceBEq, Nat.reduceLeDiff, reduceCtorEq, ↓reduceIte]
          refine ⟨ps.length - (j + 1), _, by omega, Wk.less ?_, j + 1, (eF k m ps[j]).2, ys ++ pF k ps[j], by omega, rfl, hn'.1, hn'.2, hinv, by simp; omega, by rw [hyy, List.flatMap_cons, List.append_assoc], rfl⟩
          simp [go_sem, wrap64s j (by omega)]
        · have hd' : decide ((j : Int) < (ps.length : Int)) = false := by simp; omega
          obtain rfl : j = ps.length := by omega
          rw [List.drop_length] at hyy
          rw [hyy]
          simp only [List.flatMap_nil, List.append_nil]
          simp only [go_sem, hd', Nat.reduceAdd, Nat.reduceEqDiff, Nat.reduceBEq, Nat.reduceLeDiff, reduceCtorEq, ↓reduceIte]
  
theorem canonL_strs (l : List Str) : canonL (l.map .str) = l.map .str := by
  rw [canonL_map, List.map_map]
  exact List.map_congr_left fun p _ => by simp [Dat.canon]

/-- the paths of an expression -/
noncomputable def pathsE (e : Exp) : List Str := if chkX e ≠ 0 then [] else uniq (sortS (pF 8 e))
theorem pF_le (e : Exp) (h : chkX e = 0) : (pF 8 e).length ≤ 256 := by
  have h1 := pF_len 8 0 e h
  have h2 := (eF_n 8 0 e (by decide) (by decide)).2
  omega
theorem walk34 (e : Exp) : PCon Tryz.prog 34 [encE e] (.d (.list 1 ((pathsE e).map .str))) := by
  refine ok34.pcon (Nat.le_of_ble_eq_true rfl) trivial ?_
  have h97 := (walk97 e).call trivial
  by_cases hx : chkX e = 0
  · have hp : pathsE e = uniq (sortS (pF 8 e)) := by rw [pathsE, if_neg (by simp [hx])]
    rw [hp]
    have hc := call98 (walk98 8 0 e [] (by decide) (by decide) hx (by simp)) 3 4 30 (by decide) (by decide) (by decide)
    rw [hx] at h97
    simp only [List.nil_append, List.length_nil, List.map_nil] at hc
    have hc' := CallOK.nilBox (f := .fn 98) (i := 3) (k := 30) (sz := 1) (j := 0) (cs := [.d (.nil 1)]) (T := [(4, some (.box [.clo (.func 98) [] [.ref 3 0, .ref 4 0]]))]) (v := .tup [])
      (args := [.d (encE e), .ref 3 0, .ref 4 0]) (ups := [(3, .box [.ms 30 (pF 8 e).length]), (30, .row (pF 8 e).length 1 ((pF 8 e).map .str))]) (by
        intro β A w H vs hT
        exact hc β A w H vs (fun e he => hT e (by simp only [List.mem_cons, List.not_mem_nil, or_false] at he ⊢; rcases he with rfl | rfl | rfl <;> simp)))
      (by simp) (by decide) rfl (by decide) rfl rfl
    rw [encE_eq] at h97 hc' ⊢
    simp only [go_sem, ir34, Nat.reduceAdd, Nat.reduceEqDiff, Nat.reduceBEq, Nat.reduceLeDiff, reduceCtorEq, ↓reduceIte]
    refine wps_call rfl h97 trivial ?_
    have q0 : ((0 : Int) != 0) = false := rfl
    simp only [go_sem, q0, Nat.reduceAdd, Nat.reduceEqDiff, Nat.reduceBEq, Nat.reduceLeDiff, reduceCtorEq, ↓reduceIte]
    refine wps_call rfl hc' ⟨rfl, rfl, rfl, trivial⟩ ?_
    simp only [go_sem, Nat.reduceAdd, Nat.reduceEqDiff, Nat.reduceBEq, Nat.reduceLeDiff, reduceCtorEq, ↓reduceIte]
    refine wps_call rfl (call100 30 _ _) ⟨rfl, trivial⟩ ?_
    simp only [go_sem, Nat.reduceAdd, Nat.reduceEqDiff, Nat.reduceBEq, Nat.reduceLeDiff, reduceCtorEq, ↓reduceIte]
    refine wps_call rfl (call101 30 _ _) ⟨rfl, trivial⟩ ?_
    simp only [go_sem, Nat.reduceAdd, Nat.reduceEqDiff, Nat.reduceBEq, Nat.reduceLeDiff, reduceCtorEq, ↓reduceIte]
    rw [canonL_strs]
  · have hp : pathsE e = [] := by rw [pathsE, if_pos hx]
    rw [hp]
    rw [encE_eq] at h97 ⊢
    simp only [go_sem, ir34, Nat.reduceAdd, Nat.reduceEqDiff, Nat.reduceBEq, Nat.reduceLeDiff, reduceCtorEq, ↓reduceIte]
    refine wps_call rfl h97 trivial ?_
    have q0 : (chkX e != 0) = true := by simp [hx]
    simp only [go_sem, q0, List.map_nil, Nat.reduceAdd, Nat.reduceEqDiff, Nat.reduceBEq, Nat.reduceLeDiff, reduceCtorEq, ↓reduceIte]
end Go.Proofs
/- mapping.Targets, Sources; the law's same and sorted. -/
set_option linter.unusedSimpArgs false
set_option linter.unusedVariables false
set_option maxRecDepth 10000
namespace Go.Proofs
open Go Av

theorem walk35 (m : List Rule) (hm : m.length ≤ 12) : PCon Tryz.prog 35 [encM m] (.d (.list 1 ((sortS (m.map Rule.target)).map .str))) := by
  refine ok35.pcon (Nat.le_of_ble_eq_true rfl) trivial ?_
  simp only [go_sem, ir35, encM, List.length_map, Nat.reduceAdd, Nat.reduceEqDiff, Nat.reduceBEq, Nat.reduceLeDiff, reduceCtorEq, ↓reduceIte]
  refine wpc_loop (fun r s => ∃ (k : Nat), k ≤ m.length ∧ r = m.length - k ∧
    s = ⟨[(3, .ms 17 k), (7, .d (.list 6 (m.map encR))), (8, .d (.int .i64 m.length)), (9, .d (.int .i64 k))], [(17, .row k 1 (((m.take k).map Rule.target).map .str))]⟩) ?_ ?_
  · refine ⟨_, _, (Wk.nilT 3 17 1 rfl rfl (by decide)).trans (Wk.less ?_), 0, Nat.zero_le _, rfl, rfl⟩
    simp [put, go_sem]
  · rintro r s ⟨k, hk, rfl, rfl⟩
    by_cases hlt : k < m.length
    · have hx := nth_encR hlt
      have hd : decide ((k : Int) < (m.length : Int)) = true := by simp; omega
      simp only [go_sem, hx, hd, Int.toNat_natCast, List.length_map, Nat.reduceAdd, Nat.reduceEqDiff, Nat.reduceBEq, Nat.reduceLeDiff, reduceCtorEq, ↓reduceIte]
      refine ⟨⟨by omega, by omega⟩, by simp, by simp; omega, m.length - (k + 1), _, by omega, Wk.less ?_, k + 1, by omega, rfl, rfl⟩
      simp only [go_sem, wrap64s k (by omega), List.take_succ_eq_append_getElem hlt, List.map_append, List.map_cons, List.map_nil, Nat.reduceAdd, Nat.reduceEqDiff, Nat.reduceBEq, Nat.reduceLeDiff, reduceCtorEq, ↓reduceIte]
    · have hd : decide ((k : Int) < (m.length : Int)) = false := by simp; omega
      obtain rfl : k = m.length := by omega
      simp only [go_sem, hd, List.take_length, List.length_map, Nat.reduceAdd, Nat.reduceEqDiff, Nat.reduceBEq, Nat.reduceLeDiff, reduceCtorEq, ↓reduceIte]
      refine wps_call rfl (call100 17 _ _) ⟨rfl, trivial⟩ ?_
      simp only [go_sem, canonL_strs, Nat.reduceAdd, Nat.reduceEqDiff, Nat.reduceBEq, Nat.reduceLeDiff, reduceCtorEq, ↓reduceIte]

theorem sort_len (ss : List Str) : (sortS ss).length = ss.length := (sortS_perm ss).length_eq
theorem pathsE_len (e : Exp) : (pathsE e).length ≤ 256 := by
  unfold pathsE
  split
  · simp
  · rename_i h
    have := (uniqF_sub (sortS (pF 8 e)) none).length_le
    rw [sort_len] at this
    exact Nat.le_trans this (pF_le e (by simpa using h))
def ruleR : Rule := ⟨[], .mk 0 0 [] [] []⟩
/-- the paths of a mapping, expression by expression -/
noncomputable def pathsM (m : List Rule) : List Str := m.flatMap fun r => pathsE r.expr
theorem pathsM_len : ∀ m : List Rule, (pathsM m).length ≤ 256 * m.length
  | [] => by simp [pathsM]
  | r :: m => by
    have h1 := pathsM_len m
    have h2 := pathsE_len r.expr
    simp only [pathsM, List.flatMap_cons, List.length_append, List.length_cons] at h1 ⊢
    omega

theorem walk38 (m : List Rule) (hm : m.length ≤ 12) : PCon Tryz.prog 38 [encM m] (.d (.list 1 ((uniq (sortS (pathsM m))).map .str))) := by
  refine ok38.pcon (Nat.le_of_ble_eq_true rfl) trivial ?_
  simp only [go_sem, ir38, encM, List.length_map, Nat.reduceAdd, Nat.reduceEqDiff, Nat.reduceBEq, Nat.reduceLeDiff, reduceCtorEq, ↓reduceIte]
  refine wpc_loop (fun r s => ∃ (k : Nat), k ≤ m.length ∧ r = m.length - k ∧
    s = ⟨[(3, .ms 17 k), (7, .d (.list 6 (m.map encR))), (8, .d (.int .i64 m.length)), (9, .d (.int .i64 k))], [(17, .row k 1 ((pathsM (m.take k)).map .str))]⟩) ?_ ?_
  · refine ⟨_, _, (Wk.nilT 3 17 1 rfl rfl (by decide)).trans (Wk.less ?_), 0, Nat.zero_le _, rfl, rfl⟩
    simp [put, go_sem, pathsM]
  · rintro r s ⟨k, hk, rfl, rfl⟩
    by_cases hlt : k < m.length
    · have hx := nth_encR hlt
      have hd : decide ((k : Int) < (m.length : Int)) = true := by simp; omega
      have hc := (walk34 m[k].expr).call trivial
      have hl1 := pathsM_len (m.take k)
      have hl2 := pathsE_len m[k].expr
      have hp : pathsM (m.take (k + 1)) = pathsM (m.take k) ++ pathsE m[k].expr := by
        rw [List.take_succ_eq_append_getElem hlt, pathsM, List.flatMap_append]
        simp [pathsM]
      have hl3 : (m.take k).length ≤ 12 := by simp; omega
      rw [encE_eq] at hc
      simp only [go_sem, hx, hd, Int.toNat_natCast, List.length_map, Nat.reduceAdd, Nat.reduceEqDiff, Nat.reduceBEq, Nat.reduceLeDiff, reduceCtorEq, ↓reduceIte]
      refine ⟨⟨by omega, by omega⟩, wps_call rfl hc trivial ?_⟩
      simp only [go_sem, Nat.reduceAdd, Nat.reduceEqDiff, Nat.reduceBEq, Nat.reduceLeDiff, reduceCtorEq, ↓reduceIte]
      refine ⟨by simp; omega, m.length - (k + 1), _, by omega, Wk.less ?_, k + 1, by omega, rfl, rfl⟩
      simp only [go_sem, wrap64s k (by omega), hp, List.map_append, Nat.reduceAdd, Nat.reduceEqDiff, Nat.reduceBEq, Nat.reduceLeDiff, reduceCtorEq, ↓reduceIte]
    · have hd : decide ((k : Int) < (m.length : Int)) = false := by simp; omega
      obtain rfl : k = m.length := by omega
      simp only [go_sem, hd, List.take_length, List.length_map, Nat.reduceAdd, Nat.reduceEqDiff, Nat.reduceBEq, Nat.reduceLeDiff, reduceCtorEq, ↓reduceIte]
      refine wps_call rfl (call100 17 _ _) ⟨rfl, trivial⟩ ?_
      simp only [go_sem, Nat.reduceAdd, Nat.reduceEqDiff, Nat.reduceBEq, Nat.reduceLeDiff, reduceCtorEq, ↓reduceIte]
      refine wps_call rfl (call101 17 _ _) ⟨rfl, trivial⟩ ?_
      simp only [go_sem, canonL_strs, Nat.reduceAdd, Nat.reduceEqDiff, Nat.reduceBEq, Nat.reduceLeDiff, reduceCtorEq, ↓reduceIte]

theorem nth_str {xs : List Str} {k : Nat} (h : k < xs.length) : nth (xs.map .str) k = .str xs[k] := by
  rw [nth_eq (by simpa using h), List.getElem_map]

theorem walk36 (a b : List Str) (ha : a.length ≤ 68719476736) : PCon Tryz.prog 36 [.list 1 (a.map .str), .list 1 (b.map .str)] (.d (.bool (a == b))) := by
  refine ok36.pcon (Nat.le_of_ble_eq_true rfl) trivial ?_
  simp only [go_sem, ir36, List.length_map, Nat.reduceAdd, Nat.reduceEqDiff, Nat.reduceBEq, Nat.reduceLeDiff, reduceCtorEq, ↓reduceIte]
  refine ⟨fun h => ?_, fun h => ?_⟩
  · have : a ≠ b := by rintro rfl; simp at h
    simp [this]
  have hl : a.length = b.length := by simp at h; omega
  generalize hR : (a == b) = R
  refine wpc_loop (fun r s => ∃ (k : Nat), k ≤ a.length ∧ r = a.length - k ∧ a.take k = b.take k ∧
    s = ⟨[(0, .d (.list 1 (a.map .str))), (1, .d (.list 1 (b.map .str))), (5, .d (.int .i64 k))], []⟩) ?_ ?_
  · exact ⟨_, _, Wk.refl _, 0, Nat.zero_le _, rfl, rfl, rfl⟩
  · rintro r s ⟨k, hk, rfl, hinv, rfl⟩
    by_cases hlt : k < a.length
    · have hx := nth_str hlt
      have hy := nth_str (xs := b) (k := k) (by omega)
      have hd : decide ((k : Int) < (a.length : Int)) = true := by simp; omega
      simp only [go_sem, hx, hy, hd, Int.toNat_natCast, List.length_map, Nat.reduceAdd, Nat.reduceEqDiff, Nat.reduceBEq, Nat.reduceLeDiff, reduceCtorEq, ↓reduceIte]
      refine ⟨⟨by omega, by omega⟩, by decide, ⟨by omega, by omega⟩, by decide, fun hf => ?_, fun hf => ?_⟩
      · have hne : a ≠ b := by
          rintro rfl
          simp at hf
        have : (a == b) = false := by simpa using hne
        rw [this] at hR
        rw [hR]
      · have hq : a[k] = b[k] := by simpa using hf
        refine ⟨a.length - (k + 1), _, by omega, Wk.less ?_, k + 1, by omega, rfl, ?_, rfl⟩
        · simp only [go_sem, wrap64s k (by omega), Nat.reduceAdd, Nat.reduceEqDiff, Nat.reduceBEq, Nat.reduceLeDiff, reduceCtorEq, ↓reduceIte]
        · rw [List.take_succ_eq_append_getElem hlt, List.take_succ_eq_append_getElem (by omega), hinv, hq]
    · have hd : decide ((k : Int) < (a.length : Int)) = false := by simp; omega
      obtain rfl : k = a.length := by omega
      have hab : a = b := by
        rw [List.take_length, hl, List.take_length] at hinv
        exact hinv
      rw [beq_iff_eq.2 hab] at hR
      subst hR
      simp only [go_sem, hd, List.length_map, Nat.reduceAdd, Nat.reduceEqDiff, Nat.reduceBEq, Nat.reduceLeDiff, reduceCtorEq, ↓reduceIte]
end Go.Proofs
