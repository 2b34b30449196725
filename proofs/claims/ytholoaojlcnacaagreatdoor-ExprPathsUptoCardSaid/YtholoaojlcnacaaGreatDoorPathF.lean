/-
  DERIVED: THE SHELF's CONTRACTS AT THIS DUMP, IN PLAIN WORDS (tools/lay-plain.mjs out of 'TShS.lean', which tools/lay-shelf.mjs wrote): THE SAME DECLARATIONS UNDER THE SAME NAMES: 'import', 'namespace', 'open', 'def', 'theorem' AND NOTHING ELSE: no command of the shelf's: FOR A HAND-IN. Each laying: the table of numbers ('.._ren') and one theorem, a field a fact of the dump's own or the kernel's comparison; each contract: ONE APPLICATION.
-/
import Derived.Shelf.SlGeneric
import Derived.Shelf.Sort.Plain
import Derived.Shelf.Slices.In.SortNone
import Derived.Shelf.Slices.CompactS
import Derived.Ground.Names2Prog
import Derived.Test.YtholoaojlcnacaaGreatDoorProg
import Derived.Test.YtholoaojlcnacaaGreatDoorPathE
import Derived.Test.YtholoaojlcnacaaGreatDoorAvD
set_option linter.unusedVariables false
set_option linter.unusedSimpArgs false
set_option linter.unusedSectionVars false
namespace Go.Proofs
open Go.Shelf
def Tryz.laysSort_ren : Go.Shelf.Ren := ⟨fun | 190 => 68 | 125 => 140 | 258 => 139 | 128 => 207 | 129 => 208 | 302 => 198 | 303 => 199 | 304 => 200 | 305 => 201 | 306 => 202 | 307 => 203 | 308 => 204 | 309 => 205 | 310 => 206 | 333 => 262 | 329 => 263 | 330 => 264 | 334 => 265 | 335 => 266 | 336 => 267 | 344 => 318 | n => n, fun | 31 => 29 | 9 => 9 | 3 => 3 | 46 => 189 | 0 => 0 | 51 => 246 | 53 => 248 | 4 => 4 | 183 => 239 | 182 => 238 | 131 => 203 | 5 => 5 | 218 => 290 | 222 => 80 | 228 => 335 | 229 => 118 | n => n, fun | n => n⟩
theorem Tryz.laysSort : Go.Proofs.Lays.n190 Tryz.prog Tryz.laysSort_ren := {
  mixed := by kernel_rfl
  f125 := Tryz.func140.trans (congrArg some (by kernel_rfl))
  f128 := Tryz.func207.trans (congrArg some (by kernel_rfl))
  f129 := Tryz.func208.trans (congrArg some (by kernel_rfl))
  f190 := Tryz.func68.trans (congrArg some (by kernel_rfl))
  f258 := Tryz.func139.trans (congrArg some (by kernel_rfl))
  f302 := Tryz.func198.trans (congrArg some (by kernel_rfl))
  f303 := Tryz.func199.trans (congrArg some (by kernel_rfl))
  f304 := Tryz.func200.trans (congrArg some (by kernel_rfl))
  f305 := Tryz.func201.trans (congrArg some (by kernel_rfl))
  f306 := Tryz.func202.trans (congrArg some (by kernel_rfl))
  f307 := Tryz.func203.trans (congrArg some (by kernel_rfl))
  f308 := Tryz.func204.trans (congrArg some (by kernel_rfl))
  f309 := Tryz.func205.trans (congrArg some (by kernel_rfl))
  f310 := Tryz.func206.trans (congrArg some (by kernel_rfl))
  f329 := Tryz.func263.trans (congrArg some (by kernel_rfl))
  f330 := Tryz.func264.trans (congrArg some (by kernel_rfl))
  f333 := Tryz.func262.trans (congrArg some (by kernel_rfl))
  f334 := Tryz.func265.trans (congrArg some (by kernel_rfl))
  f335 := Tryz.func266.trans (congrArg some (by kernel_rfl))
  f336 := Tryz.func267.trans (congrArg some (by kernel_rfl))
  f344 := Tryz.func318.trans (congrArg some (by kernel_rfl))
  t0 := Tryz.underlying0
  a0 := Tryz.isAgg0
  z0 := Tryz.sizeOf0
  v0 := Tryz.zeroValue0
  t3 := Tryz.underlying3
  a3 := Tryz.isAgg3
  z3 := Tryz.sizeOf3
  v3 := Tryz.zeroValue3
  t4 := Tryz.underlying4
  a4 := Tryz.isAgg4
  z4 := Tryz.sizeOf4
  v4 := Tryz.zeroValue4
  t5 := Tryz.underlying5
  a5 := Tryz.isAgg5
  z5 := Tryz.sizeOf5
  v5 := Tryz.zeroValue5
  t9 := Tryz.underlying9
  a9 := Tryz.isAgg9
  z9 := Tryz.sizeOf9
  v9 := Tryz.zeroValue9
  t31 := Tryz.underlying29
  a31 := Tryz.isAgg29
  z31 := Tryz.sizeOf29
  v31 := Tryz.zeroValue29
  t46 := Tryz.underlying189
  a46 := Tryz.isAgg189
  z46 := Tryz.sizeOf189
  v46 := Tryz.zeroValue189
  t51 := Tryz.underlying246
  a51 := Tryz.isAgg246
  z51 := Tryz.sizeOf246
  v51 := Tryz.zeroValue246
  t53 := Tryz.underlying248
  a53 := Tryz.isAgg248
  z53 := Tryz.sizeOf248
  v53 := Tryz.zeroValue248
  t131 := Tryz.underlying203
  a131 := Tryz.isAgg203
  z131 := Tryz.sizeOf203
  v131 := Tryz.zeroValue203
  t182 := Tryz.underlying238
  a182 := Tryz.isAgg238
  z182 := Tryz.sizeOf238
  v182 := Tryz.zeroValue238
  t183 := Tryz.underlying239
  a183 := Tryz.isAgg239
  z183 := Tryz.sizeOf239
  v183 := Tryz.zeroValue239
  t218 := Tryz.underlying290
  a218 := Tryz.isAgg290
  z218 := Tryz.sizeOf290
  v218 := Tryz.zeroValue290
  t222 := Tryz.underlying80
  a222 := Tryz.isAgg80
  z222 := Tryz.sizeOf80
  v222 := Tryz.zeroValue80
  t228 := Tryz.underlying335
  a228 := Tryz.isAgg335
  z228 := Tryz.sizeOf335
  v228 := Tryz.zeroValue335
  t229 := Tryz.underlying118
  a229 := Tryz.isAgg118
  z229 := Tryz.sizeOf118
  v229 := Tryz.zeroValue118 }
def Tryz.laysCompact_ren : Go.Shelf.Ren := ⟨fun | 194 => 69 | n => n, fun | 31 => 29 | 9 => 9 | 3 => 3 | 4 => 4 | 0 => 0 | n => n, fun | n => n⟩
theorem Tryz.laysCompact : Go.Proofs.Lays.n194 Tryz.prog Tryz.laysCompact_ren := {
  mixed := by kernel_rfl
  f194 := Tryz.func69.trans (congrArg some (by kernel_rfl))
  t0 := Tryz.underlying0
  a0 := Tryz.isAgg0
  z0 := Tryz.sizeOf0
  v0 := Tryz.zeroValue0
  t3 := Tryz.underlying3
  a3 := Tryz.isAgg3
  z3 := Tryz.sizeOf3
  v3 := Tryz.zeroValue3
  t4 := Tryz.underlying4
  a4 := Tryz.isAgg4
  z4 := Tryz.sizeOf4
  v4 := Tryz.zeroValue4
  t9 := Tryz.underlying9
  a9 := Tryz.isAgg9
  z9 := Tryz.sizeOf9
  v9 := Tryz.zeroValue9
  t31 := Tryz.underlying29
  a31 := Tryz.isAgg29
  z31 := Tryz.sizeOf29
  v31 := Tryz.zeroValue29 }
end Go.Proofs
/- expr.Paths. -/
set_option linter.unusedSimpArgs false
set_option linter.unusedVariables false
set_option maxRecDepth 10000
namespace Go.Proofs
open Go Av

/-- repeated neighbours go -/
def uniqF : Option Str → List Str → List Str
  | _, [] => []
  | p, x :: r => if p = some x then uniqF (some x) r else x :: uniqF (some x) r
def uniq (l : List Str) : List Str := uniqF none l
theorem uniqF_one : ∀ (l : List Str) (p : Option Str) (x : Str), uniqF p (l ++ [x]) = uniqF p l ++ (if (l.getLast?.or p) = some x then [] else [x])
  | [], p, x => by
    have e : (([] : List Str).getLast?.or p) = p := by simp
    rw [e]
    simp only [List.nil_append, uniqF]
  | y :: r, p, x => by
    have e : ((y :: r).getLast?.or p) = (r.getLast?.or (some y)) := by
      cases r with
      | nil => simp
      | cons z q => simp [List.getLast?_cons_cons, List.getLast?_cons]
    rw [e]
    simp only [List.cons_append, uniqF, uniqF_one r (some y) x]
    split <;> simp
theorem uniqF_sub : ∀ (l : List Str) (p : Option Str), (uniqF p l).Sublist l
  | [], p => by simp [uniqF]
  | x :: r, p => by
    simp only [uniqF]
    split
    · exact (uniqF_sub r _).cons x
    · exact (uniqF_sub r _).cons_cons x
theorem compactUpTo_uniq (zs : List Str) : ∀ m, m ≤ zs.length → Lib.compactUpTo zs.toArray m = uniq (zs.take m)
  | 0, _ => by simp [Lib.compactUpTo, uniq, uniqF]
  | m + 1, h => by
    rw [Lib.compactUpTo_succ, compactUpTo_uniq zs m (by omega), List.take_succ_eq_append_getElem (by omega)]
    unfold uniq
    rw [uniqF_one]
    congr 1
    have e1 : zs.toArray[m]! = zs[m] := by rw [getElem!_pos _ _ (by simp; omega)]; simp
    rw [e1]
    cases m with
    | zero =>
      have : Lib.keeps zs.toArray 0 = true := by simp [Lib.keeps]
      simp [this]
    | succ k =>
      have e2 : zs.toArray[k]! = zs[k] := by rw [getElem!_pos _ _ (by simp; omega)]; simp
      have e3 : (zs.take (k + 1)).getLast? = some zs[k] := by
        rw [List.take_succ_eq_append_getElem (by omega), List.getLast?_concat]
      rw [e3]
      simp only [Lib.keeps, e1, Nat.add_sub_cancel, e2, Option.some_or, Option.some.injEq]
      by_cases hq : zs[k] = zs[k + 1]
      · simp [hq]
      · have : zs[k + 1] ≠ zs[k] := fun e => hq e.symm
        simp [hq, this]
theorem compact_uniq (zs : List Str) : Lib.compact zs = uniq zs := by
  rw [Lib.compact, compactUpTo_uniq zs _ (Nat.le_refl _), List.take_length]

theorem call68 (i v : Nat) (ss : List Str) : CallOK Tryz.prog 68 [.ms i v] [(i, some (.row v 1 (ss.map .str)))] (.tup []) [(i, .row v 1 ((sortS ss).map .str))] :=
  CallOK.sort (hasT Tryz.func68 (by kernel_rfl) (by kernel_rfl)) (fun b cap ss w h1 h2 h3 => Any.slices_Sort_string Tryz.laysSort b 0 cap ss w h1 h2 h3) (fun a cap w => Any.slices_Sort_string_none Tryz.laysSort a cap w) i v ss
theorem call69 (i v : Nat) (ss : List Str) : CallOK Tryz.prog 69 [.ms i v] [(i, some (.row v 1 (ss.map .str)))] (.ms i (v + 1)) [(i, .row (v + 1) 1 ((uniq ss).map .str))] := by
  rw [← compact_uniq]
  exact CallOK.compact (hasT Tryz.func69 (by kernel_rfl) (by kernel_rfl)) (fun b cap ss w h1 h2 h3 => Any.slices_Compact_string Tryz.laysCompact b 0 cap ss w h1 h2 h3) (fun a cap w => Any.slices_Compact_string_empty Tryz.laysCompact a cap w)
    (fun ss => by rw [compact_uniq]; exact uniqF_sub ss none) i v ss

/-- the paths of an expression, in the order of the walk -/
def pF : Nat → Exp → List Str
  | 0, _ => []
  | k + 1, e => (if pathedB e.op then [e.text] else []) ++ e.args.flatMap (pF k)
theorem foldE_cons {f : Int → Exp → Int × Int} {n : Int} {v : Exp} {r : List Exp} (h : (foldE f n (v :: r)).1 = 0) : (f n v).1 = 0 ∧ foldE f n (v :: r) = foldE f (f n v).2 r := by
  simp only [foldE] at h ⊢
  split at h
  · rename_i hx; exact absurd h hx
  · rename_i hx
    simp only [ne_eq, Decidable.not_not] at hx
    rw [if_neg (by simp [hx])]
    exact ⟨hx, rfl⟩
theorem eF_succ {k : Nat} {n : Int} {e : Exp} (h : (eF (k + 1) n e).1 = 0) : eF (k + 1) n e = foldE (eF k) (n + 1) e.args := by
  simp only [eF] at h ⊢
  split at h
  · cases h
  · rename_i h1
    rw [if_neg h1]
    split at h
    · rename_i h2; exact absurd h h2
    · rename_i h2; rw [if_neg h2]
theorem eF_zero (n : Int) (e : Exp) : (eF 0 n e).1 ≠ 0 := by
  simp only [eF]
  split <;> simp
theorem foldE_len {f : Int → Exp → Int × Int} {g : Exp → List Str} (hf : ∀ n v, (f n v).1 = 0 → n + ((g v).length : Int) ≤ (f n v).2) : ∀ (l : List Exp) (n : Int), (foldE f n l).1 = 0 → n + ((l.flatMap g).length : Int) ≤ (foldE f n l).2
  | [], n, h => by simp [foldE]
  | v :: r, n, h => by
    obtain ⟨h1, h2⟩ := foldE_cons h
    rw [h2] at h ⊢
    have q1 := hf n v h1
    have q2 := foldE_len hf r _ h
    simp only [List.flatMap_cons, List.length_append] at q2 ⊢
    push_cast
    omega
theorem pF_len : ∀ (k : Nat) (n : Int) (e : Exp), (eF k n e).1 = 0 → n + ((pF k e).length : Int) ≤ (eF k n e).2
  | 0, n, e, h => absurd h (eF_zero n e)
  | k + 1, n, e, h => by
    have e1 := eF_succ h
    rw [e1] at h ⊢
    have := foldE_len (g := pF k) (fun n v hv => pF_len k n v hv) e.args (n + 1) h
    have hb : ((if pathedB e.op then [e.text] else []) : List Str).length ≤ 1 := by split <;> simp
    simp only [pF, List.length_append]
    push_cast
    omega

abbrev clo98 : Av := .clo (.func 66) [] [.ref 1000 0, .ref 1001 0]
abbrev TP (xs : List Str) : List (Nat × Av.Obj) := [(1000, .box [.ms 1002 xs.length]), (1001, .box [clo98]), (1002, .row xs.length 1 (xs.map .str))]
abbrev upsP (xs : List Str) : List (Nat × Av.Obj) := [(1000, .box [.ms 1002 xs.length]), (1002, .row xs.length 1 (xs.map .str))]
theorem TP_closed (xs : List Str) : closed (get (TP xs)) := by
  refine closed_of ?_
  simp [closedH, objIn, idsInL, idsIn, Av.get]
theorem TP_ups (xs ys : List Str) : hputs (get (TP xs)) (upsP ys) = get (TP ys) := by rw [← get_puts]; rfl
theorem TP_dom {xs : List Str} {i : Nat} (h : (get (TP xs) i).isSome = true) : i = 1000 ∨ i = 1001 ∨ i = 1002 := by
  simp only [TP, Av.get] at h
  split at h
  · rename_i e; exact .inl e.symm
  · split at h
    · rename_i e; exact .inr (.inl e.symm)
    · split at h
      · rename_i e; exact .inr (.inr e.symm)
      · cases h

theorem call66 {e : Exp} {xs ys : List Str} (h : Con Tryz.prog 66 [.d (encE e), .ref 1000 0, .ref 1001 0] (TP xs) (.tup []) (upsP ys)) (i j r : Nat) (h1 : i ≠ j) (h2 : i ≠ r) (h3 : j ≠ r) :
    CallOK Tryz.prog 66 [.d (encE e), .ref i 0, .ref j 0] [(i, some (.box [.ms r xs.length])), (j, some (.box [.clo (.func 66) [] [.ref i 0, .ref j 0]])), (r, some (.row xs.length 1 (xs.map .str)))] (.tup [])
      [(i, .box [.ms r ys.length]), (r, .row ys.length 1 (ys.map .str))] := by
  have := h.call (fun n => if n = 1000 then i else if n = 1001 then j else r) (fun k hk => by rcases TP_dom hk with rfl | rfl | rfl <;> decide) (fun a b ha hb e => ?_) (by simp [idsIn, Av.get]) (TP_closed xs) [] (by simp [Av.get])
    (by rw [TP_ups]; exact TP_closed ys) trivial
  · simp [Av.ren, Obj.ren, renL] at this
    exact this
  · rw [TP_ups] at ha hb
    rcases TP_dom ha with rfl | rfl | rfl <;> rcases TP_dom hb with rfl | rfl | rfl <;> simp at e <;> first | rfl | exact absurd e h1 | exact absurd e.symm h1 | exact absurd e h2 | exact absurd e.symm h2 | exact absurd e h3 | exact absurd e.symm h3

theorem walk66 : ∀ (k : Nat) (n : Int) (e : Exp) (xs : List Str), 0 ≤ n → n ≤ 256 → (eF k n e).1 = 0 → (xs.length : Int) ≤ n →
    Con Tryz.prog 66 [.d (encE e), .ref 1000 0, .ref 1001 0] (TP xs) (.tup []) (upsP (xs ++ pF k e)) := by
  intro k
  induction k with
  | zero => intro n e xs _ _ h _; exact absurd h (eF_zero n e)
  | succ k ih =>
    intro n e xs h0 h1 hz hl
    refine Con.of_fits ok66.has fun hfit => ?_
    obtain ⟨_, _, f3, _⟩ := fits_E (hfit (encE e) (by simp))
    have hF := eF_succ hz
    rw [hF] at hz
    refine ok66.con (k := false) (Nat.le_of_ble_eq_true rfl) (by rw [TP_ups]; exact TP_closed _) trivial ?_
    have h99 := (walk67 e.op).call trivial
    rw [encE_eq]
    simp only [TP, go_sem, ir66, Nat.reduceAdd, Nat.reduceEqDiff, Nat.reduceBEq, Nat.reduceLeDiff, reduceCtorEq, ↓reduceIte]
    refine wps_call rfl h99 trivial ?_
    simp only [go_sem, Nat.reduceAdd, Nat.reduceEqDiff, Nat.reduceBEq, Nat.reduceLeDiff, reduceCtorEq, ↓reduceIte]
    have hn1 : n + 1 ≤ 256 := by
      by_cases h256 : n = 256
      · rw [← hF, eF, if_pos h256] at hz; simp at hz
      · omega
    have hl' : xs.length ≤ 256 := by omega
    refine ⟨fun hp => ⟨by simp, by simp; omega, ?_⟩, fun hp => ?_⟩
    · have e1 : (1002, Av.Obj.row (xs.length + 1) 1 (List.map Dat.str xs ++ [Dat.str e.text])) = (1002, Av.Obj.row (xs ++ [e.text]).length 1 ((xs ++ [e.text]).map .str)) := by simp
      have e2 : (1000, Av.Obj.box [Av.ms 1002 (xs.length + 1)]) = (1000, Av.Obj.box [Av.ms 1002 (xs ++ [e.text]).length]) := by simp
      rw [e1, e2]
      clear e1 e2
      clear hfit h99
      generalize hP : e.args = ps at *
      have hzl : ((xs ++ [e.text]).length : Int) ≤ n + 1 := by first | omega | (simp; omega)
      have hzz : xs ++ pF (k + 1) e = (xs ++ [e.text]) ++ ps.flatMap (pF k) := by rw [pF, if_pos hp, hP]; simp
      rw [hzz]
      simp only [List.length_map]
      refine wpc_loop (fun r s => ∃ (j : Nat) (m : Int) (ys : List Str), j ≤ ps.length ∧ r = ps.length - j ∧ 0 ≤ m ∧ m ≤ 256 ∧ (foldE (eF k) m (ps.drop j)).1 = 0 ∧ (ys.length : Int) ≤ m ∧ (xs ++ [e.text]) ++ ps.flatMap (pF k) = ys ++ (ps.drop j).flatMap (pF k) ∧
        s = ⟨[(1, .ref 1000 0), (2, .ref 1001 0), (15, .d (.list 5 (ps.map encE))), (16, .d (.int .i64 ps.length)), (17, .d (.int .i64 j))],
          [(1000, .box [.ms 1002 ys.length]), (1001, .box [clo98]), (1002, .row ys.length 1 (ys.map .str))]⟩) ?_ ?_
      · refine ⟨_, _, Wk.less ?_, 0, n + 1, xs ++ [e.text], Nat.zero_le _, rfl, by omega, hn1, hz, hzl, rfl, rfl⟩
        simp [go_sem]
      · rintro r s ⟨j, m, ys, hj, rfl, hm0, hm1, hinv, hyl, hyy, rfl⟩
        by_cases hlt : j < ps.length
        · have hx' := nth_encE hlt
          have hd' : decide ((j : Int) < (ps.length : Int)) = true := by simp; omega
          rw [List.drop_eq_getElem_cons hlt] at hinv hyy
          obtain ⟨q1, q2⟩ := foldE_cons hinv
          rw [q2] at hinv
          have hc := call66 (ih m ps[j] ys hm0 hm1 q1 hyl) 1000 1001 1002 (by decide) (by decide) (by decide)
          have hn' := eF_n k m ps[j] hm0 hm1
          have hpl := pF_len k m ps[j] q1
          rw [encE_eq] at hc
          simp only [go_sem, hx', hd', Int.toNat_natCast, List.length_map, Nat.reduceAdd, Nat.reduceEqDiff, Nat.reduceBEq, Nat.reduceLeDiff, reduceCtorEq, ↓reduceIte]
          refine ⟨by omega, wps_call rfl hc ⟨rfl, rfl, rfl, trivial⟩ ?_⟩
          simp only [go_sem, Nat.reduceAdd, Nat.reduceEqDiff, Nat.reduceBEq, Nat.reduceLeDiff, reduceCtorEq, ↓reduceIte]
          refine ⟨ps.length - (j + 1), _, by omega, Wk.less ?_, j + 1, (eF k m ps[j]).2, ys ++ pF k ps[j], by omega, rfl, hn'.1, hn'.2, hinv, by simp; omega, by rw [hyy, List.flatMap_cons, List.append_assoc], rfl⟩
          simp [go_sem, wrap64s j (by omega)]
        · have hd' : decide ((j : Int) < (ps.length : Int)) = false := by simp; omega
          obtain rfl : j = ps.length := by omega
          rw [List.drop_length] at hyy
          rw [hyy]
          simp only [List.flatMap_nil, List.append_nil]
          simp only [go_sem, hd', Nat.reduceAdd, Nat.reduceEqDiff, Nat.reduceBEq, Nat.reduceLeDiff, reduceCtorEq, ↓reduceIte]
    · skip
      clear hfit h99
      generalize hP : e.args = ps at *
      have hzl : ((xs).length : Int) ≤ n + 1 := by first | omega | (simp; omega)
      have hzz : xs ++ pF (k + 1) e = (xs) ++ ps.flatMap (pF k) := by rw [pF, if_neg (by simp [hp]), hP]; simp
      rw [hzz]
      simp only [List.length_map]
      refine wpc_loop (fun r s => ∃ (j : Nat) (m : Int) (ys : List Str), j ≤ ps.length ∧ r = ps.length - j ∧ 0 ≤ m ∧ m ≤ 256 ∧ (foldE (eF k) m (ps.drop j)).1 = 0 ∧ (ys.length : Int) ≤ m ∧ (xs) ++ ps.flatMap (pF k) = ys ++ (ps.drop j).flatMap (pF k) ∧
        s = ⟨[(1, .ref 1000 0), (2, .ref 1001 0), (15, .d (.list 5 (ps.map encE))), (16, .d (.int .i64 ps.length)), (17, .d (.int .i64 j))],
          [(1000, .box [.ms 1002 ys.length]), (1001, .box [clo98]), (1002, .row ys.length 1 (ys.map .str))]⟩) ?_ ?_
      · refine ⟨_, _, Wk.less ?_, 0, n + 1, xs, Nat.zero_le _, rfl, by omega, hn1, hz, hzl, rfl, rfl⟩
        simp [go_sem]
      · rintro r s ⟨j, m, ys, hj, rfl, hm0, hm1, hinv, hyl, hyy, rfl⟩
        by_cases hlt : j < ps.length
        · have hx' := nth_encE hlt
          have hd' : decide ((j : Int) < (ps.length : Int)) = true := by simp; omega
          rw [List.drop_eq_getElem_cons hlt] at hinv hyy
          obtain ⟨q1, q2⟩ := foldE_cons hinv
          rw [q2] at hinv
          have hc := call66 (ih m ps[j] ys hm0 hm1 q1 hyl) 1000 1001 1002 (by decide) (by decide) (by decide)
          have hn' := eF_n k m ps[j] hm0 hm1
          have hpl := pF_len k m ps[j] q1
          rw [encE_eq] at hc
          simp only [go_sem, hx', hd', Int.toNat_natCast, List.length_map, Nat.reduceAdd, Nat.reduceEqDiff, Nat.reduceBEq, Nat.reduceLeDiff, reduceCtorEq, ↓reduceIte]
          refine ⟨by omega, wps_call rfl hc ⟨rfl, rfl, rfl, trivial⟩ ?_⟩
          simp only [go_sem, Nat.reduceAdd, Nat.reduceEqDiff, Nat.reduceBEq, Nat.reduceLeDiff, reduceCtorEq, ↓reduceIte]
          refine ⟨ps.length - (j + 1), _, by omega, Wk.less ?_, j + 1, (eF k m ps[j]).2, ys ++ pF k ps[j], by omega, rfl, hn'.1, hn'.2, hinv, by simp; omega, by rw [hyy, List.flatMap_cons, List.append_assoc], rfl⟩
          simp [go_sem, wrap64s j (by omega)]
        · have hd' : decide ((j : Int) < (ps.length : Int)) = false := by simp; omega
          obtain rfl : j = ps.length := by omega
          rw [List.drop_length] at hyy
          rw [hyy]
          simp only [List.flatMap_nil, List.append_nil]
          simp only [go_sem, hd', Nat.reduceAdd, Nat.reduceEqDiff, Nat.reduceBEq, Nat.reduceLeDiff, reduceCtorEq, ↓reduceIte]
  
theorem canonL_strs (l : List Str) : canonL (l.map .str) = l.map .str := by
  rw [canonL_map, List.map_map]
  exact List.map_congr_left fun p _ => by simp [Dat.canon]

/-- the paths of an expression -/
noncomputable def pathsE (e : Exp) : List Str := if chkX e ≠ 0 then [] else uniq (sortS (pF 8 e))
theorem pF_le (e : Exp) (h : chkX e = 0) : (pF 8 e).length ≤ 256 := by
  have h1 := pF_len 8 0 e h
  have h2 := (eF_n 8 0 e (by decide) (by decide)).2
  omega
theorem walk25 (e : Exp) : PCon Tryz.prog 25 [encE e] (.d (.list 1 ((pathsE e).map .str))) := by
  refine ok25.pcon (Nat.le_of_ble_eq_true rfl) trivial ?_
  have h97 := (walk53 e).call trivial
  by_cases hx : chkX e = 0
  · have hp : pathsE e = uniq (sortS (pF 8 e)) := by rw [pathsE, if_neg (by simp [hx])]
    rw [hp]
    have hc := call66 (walk66 8 0 e [] (by decide) (by decide) hx (by simp)) 3 4 30 (by decide) (by decide) (by decide)
    rw [hx] at h97
    simp only [List.nil_append, List.length_nil, List.map_nil] at hc
    have hc' := CallOK.nilBox (f := .fn 66) (i := 3) (k := 30) (sz := 1) (j := 0) (cs := [.d (.nil 1)]) (T := [(4, some (.box [.clo (.func 66) [] [.ref 3 0, .ref 4 0]]))]) (v := .tup [])
      (args := [.d (encE e), .ref 3 0, .ref 4 0]) (ups := [(3, .box [.ms 30 (pF 8 e).length]), (30, .row (pF 8 e).length 1 ((pF 8 e).map .str))]) (by
        intro β A w H vs hT
        exact hc β A w H vs (fun e he => hT e (by simp only [List.mem_cons, List.not_mem_nil, or_false] at he ⊢; rcases he with rfl | rfl | rfl <;> simp)))
      (by simp) (by decide) rfl (by decide) rfl rfl
    rw [encE_eq] at h97 hc' ⊢
    simp only [go_sem, ir25, Nat.reduceAdd, Nat.reduceEqDiff, Nat.reduceBEq, Nat.reduceLeDiff, reduceCtorEq, ↓reduceIte]
    refine wps_call rfl h97 trivial ?_
    have q0 : ((0 : Int) != 0) = false := rfl
    simp only [go_sem, q0, Nat.reduceAdd, Nat.reduceEqDiff, Nat.reduceBEq, Nat.reduceLeDiff, reduceCtorEq, ↓reduceIte]
    refine wps_call rfl hc' ⟨rfl, rfl, rfl, trivial⟩ ?_
    simp only [go_sem, Nat.reduceAdd, Nat.reduceEqDiff, Nat.reduceBEq, Nat.reduceLeDiff, reduceCtorEq, ↓reduceIte]
    refine wps_call rfl (call68 30 _ _) ⟨rfl, trivial⟩ ?_
    simp only [go_sem, Nat.reduceAdd, Nat.reduceEqDiff, Nat.reduceBEq, Nat.reduceLeDiff, reduceCtorEq, ↓reduceIte]
    refine wps_call rfl (call69 30 _ _) ⟨rfl, trivial⟩ ?_
    simp only [go_sem, Nat.reduceAdd, Nat.reduceEqDiff, Nat.reduceBEq, Nat.reduceLeDiff, reduceCtorEq, ↓reduceIte]
    rw [canonL_strs]
  · have hp : pathsE e = [] := by rw [pathsE, if_pos hx]
    rw [hp]
    rw [encE_eq] at h97 ⊢
    simp only [go_sem, ir25, Nat.reduceAdd, Nat.reduceEqDiff, Nat.reduceBEq, Nat.reduceLeDiff, reduceCtorEq, ↓reduceIte]
    refine wps_call rfl h97 trivial ?_
    have q0 : (chkX e != 0) = true := by simp [hx]
    simp only [go_sem, q0, List.map_nil, Nat.reduceAdd, Nat.reduceEqDiff, Nat.reduceBEq, Nat.reduceLeDiff, reduceCtorEq, ↓reduceIte]
end Go.Proofs
/- The law's sorted. -/
set_option linter.unusedSimpArgs false
set_option linter.unusedVariables false
set_option maxRecDepth 10000
namespace Go.Proofs
open Go Av

/-- where an element is to be put -/
def posS : List Str → Str → Nat
  | [], _ => 0
  | y :: r, x => if strLt y x then posS r x + 1 else 0
theorem posS_le : ∀ (l : List Str) (x : Str), posS l x ≤ l.length
  | [], x => Nat.le_refl _
  | y :: r, x => by
    simp only [posS]
    have := posS_le r x
    split
    · simp; omega
    · simp
theorem posS_eq : ∀ (l : List Str) (x : Str) (j : Nat) (hj : j ≤ l.length), (∀ i (h : i < l.length), i < j → strLt l[i] x = true) → (∀ h : j < l.length, strLt l[j] x = false) → posS l x = j
  | [], x, j, hj, _, _ => by simp at hj; subst hj; rfl
  | y :: r, x, 0, hj, h1, h2 => by
    have := h2 (by simp)
    simp only [List.getElem_cons_zero] at this
    simp [posS, this]
  | y :: r, x, j + 1, hj, h1, h2 => by
    have h0 := h1 0 (by simp) (by omega)
    simp only [List.getElem_cons_zero] at h0
    have := posS_eq r x j (by simpa using hj) (fun i h hi => h1 (i + 1) (by simpa using h) (by omega)) (fun h => h2 (by simpa using h))
    simp [posS, h0, this]
def insOne (l : List Str) (x : Str) : List Str := if l[posS l x]? = some x then l else l.take (posS l x) ++ x :: l.drop (posS l x)
def insS (xs : List Str) : List Str := xs.foldl insOne []
theorem insOne_len (l : List Str) (x : Str) : (insOne l x).length ≤ l.length + 1 := by
  have := posS_le l x
  unfold insOne
  split
  · omega
  · simp; omega
theorem foldl_len : ∀ (xs l : List Str), (xs.foldl insOne l).length ≤ l.length + xs.length
  | [], l => by simp
  | x :: r, l => by
    have h1 := foldl_len r (insOne l x)
    have h2 := insOne_len l x
    simp only [List.foldl_cons, List.length_cons]
    omega

end Go.Proofs
/- Sorted lists of strings: the plain law of MappingPaths. -/
set_option linter.unusedSimpArgs false
set_option linter.unusedVariables false
namespace Go.Proofs
open Go Av

theorem strLt_iff : ∀ (x y : Str), strLt x y = decide (x < y)
  | x, [] => by
    have : ¬ x < ([] : Str) := List.not_lt_nil x
    simp [strLt, Op.bytesLess, this]
  | [], b :: y => by
    have : ([] : Str) < b :: y := List.nil_lt_cons b y
    simp [strLt, Op.bytesLess, this]
  | a :: x, b :: y => by
    have ih := strLt_iff x y
    simp only [strLt] at ih
    simp only [strLt, Op.bytesLess, ih, List.cons_lt_cons_iff]
    by_cases h1 : a < b <;> by_cases h2 : a = b <;> simp [h1, h2]
theorem lt_irr (x : Str) : strLt x x = false := by
  rw [strLt_iff]
  simp [List.lt_irrefl]
theorem lt_tr {x y z : Str} (h1 : strLt x y = true) (h2 : strLt y z = true) : strLt x z = true := by
  rw [strLt_iff, decide_eq_true_eq] at *
  exact List.lt_trans h1 h2
theorem lt_tri : ∀ {x y : Str}, strLt x y = false → strLt y x = false → x = y
  | [], [], _, _ => rfl
  | [], b :: y, h, _ => by simp [strLt, Op.bytesLess] at h
  | a :: x, [], _, h => by simp [strLt, Op.bytesLess] at h
  | a :: x, b :: y, h1, h2 => by
    simp only [strLt, Op.bytesLess, Bool.or_eq_false_iff, decide_eq_false_iff_not, Bool.and_eq_false_iff, beq_eq_false_iff_ne] at h1 h2
    obtain ⟨p1, p2⟩ := h1
    obtain ⟨q1, q2⟩ := h2
    have e : a = b := by
      rw [UInt8.lt_iff_toNat_lt] at p1 q1
      exact UInt8.toNat_inj.1 (by omega)
    subst e
    have r1 := p2.resolve_left (fun h => h rfl)
    have r2 := q2.resolve_left (fun h => h rfl)
    rw [lt_tri (x := x) (y := y) r1 r2]

def SS (l : List Str) : Prop := l.Pairwise fun a b => strLt a b = true
theorem SS_ext : ∀ (l1 l2 : List Str), SS l1 → SS l2 → (∀ x, x ∈ l1 ↔ x ∈ l2) → l1 = l2
  | [], [], _, _, _ => rfl
  | [], b :: s, _, _, h => by have := (h b).2 List.mem_cons_self; cases this
  | a :: r, [], _, _, h => by have := (h a).1 List.mem_cons_self; cases this
  | a :: r, b :: s, h1, h2, h => by
    obtain ⟨a1, a2⟩ := List.pairwise_cons.1 h1
    obtain ⟨b1, b2⟩ := List.pairwise_cons.1 h2
    have e : a = b := by
      rcases List.mem_cons.1 ((h a).1 List.mem_cons_self) with e | e
      · exact e
      · rcases List.mem_cons.1 ((h b).2 List.mem_cons_self) with e' | e'
        · exact e'.symm
        · have := lt_tr (b1 a e) (a1 b e')
          rw [lt_irr] at this
          cases this
    subst e
    rw [SS_ext r s a2 b2 fun x => ⟨fun hx => ?_, fun hx => ?_⟩]
    · rcases List.mem_cons.1 ((h x).1 (List.mem_cons_of_mem _ hx)) with e | e
      · subst e; have := a1 x hx; rw [lt_irr] at this; cases this
      · exact e
    · rcases List.mem_cons.1 ((h x).2 (List.mem_cons_of_mem _ hx)) with e | e
      · subst e; have := b1 x hx; rw [lt_irr] at this; cases this
      · exact e

def ins : List Str → Str → List Str
  | [], x => [x]
  | y :: r, x => if strLt y x then y :: ins r x else if y = x then y :: r else x :: y :: r
theorem insOne_eq : ∀ (l : List Str) (x : Str), insOne l x = ins l x
  | [], x => by simp [insOne, ins, posS]
  | y :: r, x => by
    have ih := insOne_eq r x
    simp only [ins]
    by_cases h : strLt y x = true
    · rw [if_pos h, ← ih]
      unfold insOne
      simp only [posS, h, if_true, List.getElem?_cons_succ, List.take_succ_cons, List.drop_succ_cons]
      split <;> rfl
    · rw [if_neg h]
      unfold insOne
      simp only [posS, if_neg h, List.getElem?_cons_zero, Option.some.injEq, List.take_zero, List.drop_zero, List.nil_append]
theorem mem_ins : ∀ (l : List Str) (x z : Str), z ∈ ins l x ↔ z = x ∨ z ∈ l
  | [], x, z => by simp [ins]
  | y :: r, x, z => by
    simp only [ins]
    split
    · rw [List.mem_cons, mem_ins r x z, List.mem_cons]
      constructor
      · rintro (h | h | h)
        · exact .inr (.inl h)
        · exact .inl h
        · exact .inr (.inr h)
      · rintro (h | h | h)
        · exact .inr (.inl h)
        · exact .inl h
        · exact .inr (.inr h)
    · split
      · rename_i e
        subst e
        constructor
        · exact .inr
        · rintro (h | h)
          · rw [h]; exact List.mem_cons_self
          · exact h
      · exact List.mem_cons
theorem SS_ins : ∀ (l : List Str) (x : Str), SS l → SS (ins l x)
  | [], x, _ => List.pairwise_singleton _ _
  | y :: r, x, h => by
    obtain ⟨h1, h2⟩ := List.pairwise_cons.1 h
    simp only [ins]
    split
    · rename_i hy
      refine List.pairwise_cons.2 ⟨fun z hz => ?_, SS_ins r x h2⟩
      rcases (mem_ins r x z).1 hz with e | e
      · rw [e]; exact hy
      · exact h1 z e
    · rename_i hy
      split
      · exact h
      · rename_i hne
        have hxy : strLt x y = true := by
          cases hb : strLt x y with
          | true => rfl
          | false => exact absurd (lt_tri (by simpa using hy) hb) hne
        refine List.pairwise_cons.2 ⟨fun z hz => ?_, h⟩
        rcases List.mem_cons.1 hz with e | e
        · rw [e]; exact hxy
        · exact lt_tr hxy (h1 z e)
theorem foldl_spec : ∀ (xs l : List Str), SS l → SS (xs.foldl insOne l) ∧ ∀ z, z ∈ xs.foldl insOne l ↔ z ∈ l ∨ z ∈ xs
  | [], l, h => ⟨h, fun z => by simp⟩
  | x :: r, l, h => by
    rw [List.foldl_cons, insOne_eq]
    obtain ⟨h1, h2⟩ := foldl_spec r (ins l x) (SS_ins l x h)
    refine ⟨h1, fun z => ?_⟩
    rw [h2, mem_ins, List.mem_cons]
    constructor
    · rintro ((h | h) | h)
      · exact .inr (.inl h)
      · exact .inl h
      · exact .inr (.inr h)
    · rintro (h | h | h)
      · exact .inl (.inr h)
      · exact .inl (.inl h)
      · exact .inr h
theorem insS_spec (xs : List Str) : SS (insS xs) ∧ ∀ z, z ∈ insS xs ↔ z ∈ xs := by
  obtain ⟨h1, h2⟩ := foldl_spec xs [] List.Pairwise.nil
  exact ⟨h1, fun z => by rw [insS, h2]; simp⟩

theorem sortS_le (l : List Str) : (sortS l).Pairwise fun a b => strLt b a = false := by
  have := List.pairwise_mergeSort (le := fun x y : Str => decide (x ≤ y)) (fun a b c h1 h2 => ?_) (fun a b => ?_) l
  · refine this.imp ?_
    intro a b h
    rw [strLt_iff]
    simpa using h
  · simp only [decide_eq_true_eq] at *
    exact List.le_trans h1 h2
  · have := List.le_total a b
    simpa using this

theorem uniqF_spec : ∀ (l : List Str) (p : Option Str), (l.Pairwise fun a b => strLt b a = false) → (∀ q, p = some q → ∀ x ∈ l, strLt x q = false) →
    SS (uniqF p l) ∧ (∀ q, p = some q → ∀ x ∈ uniqF p l, strLt q x = true) ∧ ∀ z, (z ∈ uniqF p l ∨ p = some z) ↔ (z ∈ l ∨ p = some z)
  | [], p, _, _ => ⟨List.Pairwise.nil, by simp [uniqF], fun z => by simp [uniqF]⟩
  | x :: r, p, h, hp => by
    obtain ⟨h1, h2⟩ := List.pairwise_cons.1 h
    obtain ⟨i1, i2, i3⟩ := uniqF_spec r (some x) h2 (fun q e y hy => by cases e; exact h1 y hy)
    simp only [uniqF]
    split
    · rename_i e
      subst e
      refine ⟨i1, fun q e y hy => i2 q e y hy, fun z => ?_⟩
      rw [i3]
      simp only [Option.some.injEq, List.mem_cons]
      constructor
      · rintro (h | h)
        · exact .inl (.inr h)
        · exact .inr h
      · rintro ((h | h) | h)
        · exact .inr h.symm
        · exact .inl h
        · exact .inr h
    · rename_i hne
      refine ⟨List.pairwise_cons.2 ⟨fun y hy => i2 x rfl y hy, i1⟩, ?_, fun z => ?_⟩
      · rintro q rfl y hy
        have hqx : strLt q x = true := by
          cases hb : strLt q x with
          | true => rfl
          | false => exact absurd (congrArg some (lt_tri hb (hp q rfl x List.mem_cons_self))) hne
        rcases List.mem_cons.1 hy with e | e
        · rw [e]; exact hqx
        · exact lt_tr hqx (i2 x rfl y e)
      · have := i3 z
        simp only [Option.some.injEq] at this
        simp only [List.mem_cons]
        constructor
        · rintro ((h | h) | h)
          · exact .inl (.inl h)
          · rcases this.1 (.inl h) with h | h
            · exact .inl (.inr h)
            · exact .inl (.inl h.symm)
          · exact .inr h
        · rintro ((h | h) | h)
          · exact .inl (.inl h)
          · rcases this.2 (.inl h) with h | h
            · exact .inl (.inr h)
            · exact .inl (.inl h.symm)
          · exact .inr h
theorem uniq_sort (l : List Str) : uniq (sortS l) = insS l := by
  obtain ⟨h1, _, h3⟩ := uniqF_spec (sortS l) none (sortS_le l) (fun q e => by cases e)
  obtain ⟨g1, g2⟩ := insS_spec l
  refine SS_ext _ _ h1 g1 fun x => ?_
  have := h3 x
  simp only [reduceCtorEq, or_false] at this
  rw [uniq, this, g2]
  exact (sortS_perm l).mem_iff
theorem insS_sort (l : List Str) : insS (sortS l) = insS l := by
  obtain ⟨h1, h2⟩ := insS_spec (sortS l)
  obtain ⟨g1, g2⟩ := insS_spec l
  refine SS_ext _ _ h1 g1 fun x => ?_
  rw [h2, g2]
  exact (sortS_perm l).mem_iff
theorem sortS_step (l : List Str) (k : Nat) (h : k + 1 < (sortS l).length) : strLt (sortS l)[k + 1] (sortS l)[k] = false := by
  have := List.pairwise_iff_getElem.1 (sortS_le l) k (k + 1) (by omega) h (by omega)
  exact this
end Go.Proofs
/- The law MappingPaths. -/
set_option linter.unusedSimpArgs false
set_option linter.unusedVariables false
set_option maxRecDepth 10000
namespace Go.Proofs
open Go Av

/-- a growing row handed as data for good -/
theorem PCon.callF {P : Program} {f i v sz : Nat} {xs : List Dat} {r : Dat} (h : PCon P f [.list sz xs] (.d r)) : CallOK P f [.ms i v] [(i, some (.row v sz xs))] (.d r) [(i, .frz v sz xs)] := by
  intro β A w H vs hT hc hvs
  have hi : H i = some (.row v sz xs) := hT _ (List.mem_singleton.2 rfl)
  have hd : datumAll H [.ms i v] = some (v = v ∧ True, [.list sz xs], [(i, .frz v sz xs)]) := by simp [datumAll, datum, datum1, hi]
  obtain ⟨A1, s1, l1, r1, m1⟩ := datumAll_ok hc hd ⟨rfl, trivial⟩ (us := vs.toList) (by simpa using hvs.1) (fun k c u h1 h2 => hvs.2 k c u h1 (by simpa using h2))
  have := h.call trivial β A1 w _ vs (by simp) s1.core ⟨by simpa using l1, fun k c u h1 h2 => by
    rw [List.getElem?_map] at h1
    cases hq : [Dat.list sz xs][k]? with
    | none => rw [hq] at h1; cases h1
    | some x =>
      rw [hq] at h1
      cases h1
      exact .d _ _ (r1 k x u hq (by simpa using h2))⟩
  rcases this with ⟨a1, a2⟩ | ⟨u, w', a1, β', A', a2, a3⟩
  · refine .inl ⟨a1, a2.mono ?_⟩
    rintro e w' ⟨u, rfl, β', A', b1, b2⟩
    exact ⟨u, rfl, β', A', s1.trans b1, b2⟩
  · exact .inr ⟨u, w', a1, β', A', s1.trans a2, a3⟩

end Go.Proofs
