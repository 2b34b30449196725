/- Paths within paths: mapping.within, begins, slices.Equal, ContainsFunc. -/
import Derived.Test.YtholoaojlcnacaaGreatDoorPathB
set_option linter.unusedVariables false
set_option linter.unusedSimpArgs false
set_option linter.unusedSectionVars false
set_option linter.unusedSimpArgs false
set_option linter.unusedVariables false
set_option maxRecDepth 10000
namespace Go.Proofs
open Go Av

def eqP (a b : Part) : Bool := (a.kind == b.kind) && ((a.index == b.index) && ((a.name == b.name) && true))
theorem eqP_iff {a b : Part} : eqP a b = true ↔ a = b := by
  obtain ⟨k, i, n⟩ := a
  obtain ⟨k', i', n'⟩ := b
  simp [eqP]
def eqPs : List Part → List Part → Bool
  | [], [] => true
  | a :: r, b :: s => eqP a b && eqPs r s
  | _, _ => false
theorem eqPs_iff : ∀ {a b : List Part}, eqPs a b = true ↔ a = b
  | [], [] => by simp [eqPs]
  | [], _ :: _ => by simp [eqPs]
  | _ :: _, [] => by simp [eqPs]
  | a :: r, b :: s => by simp [eqPs, eqP_iff, eqPs_iff]
theorem nth_encP {xs : List Part} {k : Nat} (h : k < xs.length) : nth (xs.map encP) k = .agg [.int .i64 xs[k].kind, .int .i64 xs[k].index, .str xs[k].name] := by
  rw [nth_eq (by simpa using h), List.getElem_map, encP]
theorem eqP_ne {xs ys : List Part} {k : Nat} (h : k < xs.length) (h' : k < ys.length) (hf : eqP xs[k] ys[k] = false) : eqPs xs ys = false := by
  cases e : eqPs xs ys with
  | false => rfl
  | true =>
    have := eqPs_iff.1 e
    subst this
    have := (eqP_iff (a := xs[k]) (b := xs[k])).2 rfl
    rw [hf] at this
    cases this

theorem walk151 (xs ys : List Part) (hx : xs.length ≤ 68719476736) : PCon Tryz.prog 151 [.list 3 (xs.map encP), .list 3 (ys.map encP)] (.d (.bool (eqPs xs ys))) := by
  refine ok151.pcon (Nat.le_of_ble_eq_true rfl) trivial ?_
  simp only [go_sem, ir151, List.length_map, Nat.reduceAdd, Nat.reduceEqDiff, Nat.reduceBEq, Nat.reduceLeDiff, reduceCtorEq, ↓reduceIte]
  refine ⟨fun h => ?_, fun h => ?_⟩
  · have : eqPs xs ys = false := by
      cases e : eqPs xs ys with
      | false => rfl
      | true => have := eqPs_iff.1 e; subst this; simp at h
    rw [this]
  have hl : xs.length = ys.length := by
    have h' : (xs.length : Int) = ys.length := by simpa using h
    omega
  refine wpc_loop (fun n s => ∃ k : Nat, k ≤ xs.length ∧ n = xs.length - k ∧ (∀ (j : Nat) (h1 : j < xs.length) (h2 : j < ys.length), j < k → eqP xs[j] ys[j] = true) ∧
    s = ⟨[(0, .d (.list 3 (xs.map encP))), (1, .d (.list 3 (ys.map encP))), (12, .d (.int .i64 xs.length)), (13, .d (.int .i64 k))], []⟩) ?_ ?_
  · exact ⟨_, _, Wk.refl _, 0, Nat.zero_le _, rfl, by simp, rfl⟩
  · rintro n s ⟨k, hk, rfl, hinv, rfl⟩
    by_cases hlt : k < xs.length
    · have hlty : k < ys.length := by omega
      have hx := nth_encP hlt
      have hy := nth_encP hlty
      have hd : decide ((k : Int) < (xs.length : Int)) = true := by simp; omega
      simp only [go_sem, hx, hy, hd, Int.toNat_natCast, List.length_map, Nat.reduceAdd, Nat.reduceEqDiff, Nat.reduceBEq, Nat.reduceLeDiff, reduceCtorEq, ↓reduceIte]
      refine ⟨by omega, by omega, fun hf => ?_, fun hf => ?_⟩
      · have : eqP xs[k] ys[k] = false := by rw [Bool.not_eq_true'] at hf; exact hf
        rw [eqP_ne hlt hlty this]
      · have hq : eqP xs[k] ys[k] = true := by rw [Bool.not_eq_false'] at hf; exact hf
        refine ⟨xs.length - (k + 1), _, by omega, Wk.less ?_, k + 1, by omega, rfl, ?_, rfl⟩
        · simp only [go_sem, wrap64s k (by omega), Nat.reduceAdd, Nat.reduceEqDiff, Nat.reduceBEq, Nat.reduceLeDiff, reduceCtorEq, ↓reduceIte]
        · intro j h1 h2 hj
          by_cases e : j = k
          · subst e; exact hq
          · exact hinv j h1 h2 (by omega)
    · have hd : decide ((k : Int) < (xs.length : Int)) = false := by simp; omega
      simp only [go_sem, hd, Nat.reduceAdd, Nat.reduceEqDiff, Nat.reduceBEq, Nat.reduceLeDiff, reduceCtorEq, ↓reduceIte]
      have : eqPs xs ys = true := by
        rw [eqPs_iff]
        apply List.ext_getElem hl
        intro i h1 h2
        exact eqP_iff.1 (hinv i h1 h2 (by omega))
      rw [this]

/-- a path begins with all parts of another one -/
def withinP (l front : List Part) : Bool := decide ((l.length : Int) ≥ front.length) && eqPs (l.take front.length) front

theorem walk85 (l o : List Part) (hl : l.length ≤ 68719476736) (ho : o.length ≤ 68719476736) : PCon Tryz.prog 85 [.list 3 (l.map encP), .list 3 (o.map encP)] (.d (.bool (withinP l o))) := by
  refine ok85.pcon (Nat.le_of_ble_eq_true rfl) trivial ?_
  simp only [go_sem, ir85, List.length_map, Nat.reduceAdd, Nat.reduceEqDiff, Nat.reduceBEq, Nat.reduceLeDiff, reduceCtorEq, ↓reduceIte]
  refine scQ_pure (eqPs (l.take o.length) o) (fun h => ?_) ?_
  · simp only [decide_eq_true_eq] at h
    simp only [go_sem, List.length_map, Nat.reduceAdd, Nat.reduceEqDiff, Nat.reduceBEq, Nat.reduceLeDiff, reduceCtorEq, ↓reduceIte]
    have e : ((o.length : Int) - 0).toNat = o.length := by omega
    rw [e, t0', List.drop_zero, ← List.map_take]
    refine ⟨by omega, wps_call rfl ((walk151 (l.take o.length) o (by simp; omega)).call trivial) trivial ?_⟩
    simp only [go_sem, Nat.reduceAdd, Nat.reduceEqDiff, Nat.reduceBEq, Nat.reduceLeDiff, reduceCtorEq, ↓reduceIte]
  · simp only [go_sem, withinP, Nat.reduceAdd, Nat.reduceEqDiff, Nat.reduceBEq, Nat.reduceLeDiff, reduceCtorEq, ↓reduceIte]

theorem beginsP_eq (a b : List Part) (h : b.length ≤ a.length) : withinP a b = eqPs (a.take b.length) b := by
  unfold withinP
  have : decide ((a.length : Int) ≥ b.length) = true := by simp; omega
  rw [this, Bool.true_and]

theorem walk82 (p : Part) : PCon Tryz.prog 82 [encP p] (.d (.bool (p.kind != 1))) := by
  refine ok82.pcon (Nat.le_of_ble_eq_true rfl) trivial ?_
  simp only [encP]
  simp only [go_sem, ir82, Nat.reduceAdd, Nat.reduceEqDiff, Nat.reduceBEq, Nat.reduceLeDiff, reduceCtorEq, ↓reduceIte]

def idxP (l : List Part) : Int := match l.findIdx? (fun p => p.kind != 1) with
  | some k => (k : Int)
  | none => -1
theorem walk149 (l : List Part) (hl : l.length ≤ 68719476736) : PCon Tryz.prog 149 [.list 3 (l.map encP), .fn (.func 82) [] []] (.d (.int .i64 (idxP l))) := by
  refine ok149.pcon (Nat.le_of_ble_eq_true rfl) trivial ?_
  simp only [go_sem, ir149, List.length_map, Nat.reduceAdd, Nat.reduceEqDiff, Nat.reduceBEq, Nat.reduceLeDiff, reduceCtorEq, ↓reduceIte]
  refine wpc_loop (fun n s => ∃ k : Nat, k ≤ l.length ∧ n = l.length - k ∧ (∀ (j : Nat) (h1 : j < l.length), j < k → (l[j].kind != 1) = false) ∧
    s = ⟨[(0, .d (.list 3 (l.map encP))), (1, .d (.fn (.func 82) [] [])), (7, .d (.int .i64 l.length)), (8, .d (.int .i64 k))], []⟩) ?_ ?_
  · exact ⟨_, _, Wk.refl _, 0, Nat.zero_le _, rfl, by simp, rfl⟩
  · rintro n s ⟨k, hk, rfl, hinv, rfl⟩
    by_cases hlt : k < l.length
    · have hx := nth_encP hlt
      have hd : decide ((k : Int) < (l.length : Int)) = true := by simp; omega
      have hc := (walk82 l[k]).call trivial
      simp only [encP] at hc
      simp only [go_sem, hx, hd, Int.toNat_natCast, List.length_map, Nat.reduceAdd, Nat.reduceEqDiff, Nat.reduceBEq, Nat.reduceLeDiff, reduceCtorEq, ↓reduceIte]
      refine ⟨by omega, wps_call rfl hc trivial ?_⟩
      simp only [go_sem, Nat.reduceAdd, Nat.reduceEqDiff, Nat.reduceBEq, Nat.reduceLeDiff, reduceCtorEq, ↓reduceIte]
      refine ⟨fun hf => ?_, fun hf => ?_⟩
      · have : l.findIdx? (fun p => p.kind != 1) = some k := by
          rw [List.findIdx?_eq_some_iff_getElem]
          exact ⟨hlt, hf, fun j hj => by rw [hinv j (by omega) hj]; decide⟩
        simp only [idxP, this]
      · refine ⟨l.length - (k + 1), _, by omega, Wk.less ?_, k + 1, by omega, rfl, ?_, rfl⟩
        · simp only [go_sem, wrap64s k (by omega), Nat.reduceAdd, Nat.reduceEqDiff, Nat.reduceBEq, Nat.reduceLeDiff, reduceCtorEq, ↓reduceIte]
        · intro j h1 hj
          by_cases e : j = k
          · subst e; exact hf
          · exact hinv j h1 (by omega)
    · have hd : decide ((k : Int) < (l.length : Int)) = false := by simp; omega
      simp only [go_sem, hd, Nat.reduceAdd, Nat.reduceEqDiff, Nat.reduceBEq, Nat.reduceLeDiff, reduceCtorEq, ↓reduceIte]
      have : l.findIdx? (fun p => p.kind != 1) = none := by
        rw [List.findIdx?_eq_none_iff]
        intro x hx
        obtain ⟨j, hj, rfl⟩ := List.getElem_of_mem hx
        exact hinv j hj (by omega)
      simp only [idxP, this]

def anyK (l : List Part) : Bool := l.any fun p => p.kind != 1
theorem walk81 (l : List Part) (hl : l.length ≤ 68719476736) : PCon Tryz.prog 81 [.list 3 (l.map encP), .fn (.func 82) [] []] (.d (.bool (anyK l))) := by
  refine ok81.pcon (Nat.le_of_ble_eq_true rfl) trivial ?_
  simp only [go_sem, ir81, Nat.reduceAdd, Nat.reduceEqDiff, Nat.reduceBEq, Nat.reduceLeDiff, reduceCtorEq, ↓reduceIte]
  refine wps_call rfl ((walk149 l hl).call trivial) trivial ?_
  have : decide (idxP l ≥ 0) = anyK l := by
    unfold idxP anyK
    cases e : l.findIdx? (fun p => p.kind != 1) with
    | none =>
      rw [List.findIdx?_eq_none_iff] at e
      have : (l.any fun p => p.kind != 1) = false := by rw [List.any_eq_false]; intro x hx; rw [e x hx]; decide
      rw [this]; simp
    | some k =>
      obtain ⟨h1, h2, _⟩ := List.findIdx?_eq_some_iff_getElem.1 e
      have : (l.any fun p => p.kind != 1) = true := by rw [List.any_eq_true]; exact ⟨_, List.getElem_mem h1, h2⟩
      rw [this]; simp
  simp only [go_sem, this, Nat.reduceAdd, Nat.reduceEqDiff, Nat.reduceBEq, Nat.reduceLeDiff, reduceCtorEq, ↓reduceIte]
end Go.Proofs
/- mapping.Form. -/
set_option linter.unusedSimpArgs false
set_option linter.unusedVariables false
set_option maxRecDepth 10000
namespace Go.Proofs
open Go Av

def encPs (l : List Part) : Dat := .list 3 (l.map encP)
def meets (l o : List Part) : Bool := withinP l o || withinP o l

theorem walk84 (l o : List Part) (hl : l.length ≤ 68719476736) (ho : o.length ≤ 68719476736) :
    Con Tryz.prog 84 ([encPs o].map .d ++ [.ref 1000 0]) [(1000, .box ([encPs l].map .d))] (.d (.bool (meets l o))) [] := by
  refine ok84.con (k := false) (Nat.le_of_ble_eq_true rfl) (closed_box _ _) trivial ?_
  simp only [List.map_cons, List.map_nil, List.cons_append, List.nil_append, encPs]
  simp only [go_sem, ir84, Nat.reduceAdd, Nat.reduceEqDiff, Nat.reduceBEq, Nat.reduceLeDiff, reduceCtorEq, ↓reduceIte]
  refine wps_call rfl ((walk85 l o hl ho).call trivial) trivial ?_
  simp only [go_sem, Nat.reduceAdd, Nat.reduceEqDiff, Nat.reduceBEq, Nat.reduceLeDiff, reduceCtorEq, ↓reduceIte]
  refine scQ_pure (withinP o l) (fun h => ?_) ?_
  · simp only [go_sem, Nat.reduceAdd, Nat.reduceEqDiff, Nat.reduceBEq, Nat.reduceLeDiff, reduceCtorEq, ↓reduceIte]
    refine wps_call rfl ((walk85 o l ho hl).call trivial) trivial ?_
    simp only [go_sem, Nat.reduceAdd, Nat.reduceEqDiff, Nat.reduceBEq, Nat.reduceLeDiff, reduceCtorEq, ↓reduceIte]
  · simp only [go_sem, meets, Nat.reduceAdd, Nat.reduceEqDiff, Nat.reduceBEq, Nat.reduceLeDiff, reduceCtorEq, ↓reduceIte]

def idxM (l : List Part) (ls : List (List Part)) : Int := match ls.findIdx? (meets l) with
  | some k => (k : Int)
  | none => -1
theorem nth_encPs {xs : List (List Part)} {k : Nat} (h : k < xs.length) : nth (xs.map encPs) k = .list 3 (xs[k].map encP) := by
  rw [nth_eq (by simpa using h), List.getElem_map, encPs]

abbrev T2 (l : List Part) (v : Nat) (ls : List (List Part)) : List (Nat × Av.Obj) := [(1000, .box [.d (encPs l)]), (1001, .row v 1 (ls.map encPs))]

theorem T2_closed (l : List Part) (v : Nat) (ls : List (List Part)) : closed (get (T2 l v ls)) := by
  refine closed_of ?_
  simp only [closedH, objIn, idsInL, idsIn, and_true]

theorem walk150 (l : List Part) (v : Nat) (ls : List (List Part)) (hl : l.length ≤ 68719476736) (hls : ls.length ≤ 68719476736) (h : ∀ x ∈ ls, x.length ≤ 68719476736) :
    Con Tryz.prog 150 [.ms 1001 v, .clo (.func 84) [] [.ref 1000 0]] (T2 l v ls) (.d (.int .i64 (idxM l ls))) [] := by
  refine ok150.con (k := false) (Nat.le_of_ble_eq_true rfl) (T2_closed l v ls) trivial ?_
  simp only [T2]
  simp only [go_sem, ir150, List.length_map, Nat.reduceAdd, Nat.reduceEqDiff, Nat.reduceBEq, Nat.reduceLeDiff, reduceCtorEq, ↓reduceIte]
  refine wpc_loop (fun n s => ∃ k : Nat, k ≤ ls.length ∧ n = ls.length - k ∧ (∀ (j : Nat) (h1 : j < ls.length), j < k → meets l ls[j] = false) ∧
    s = ⟨[(0, .ms 1001 v), (1, .clo (.func 84) [] [.ref 1000 0]), (7, .d (.int .i64 ls.length)), (8, .d (.int .i64 k))], [(1000, .box [.d (encPs l)]), (1001, .row v 1 (ls.map encPs))]⟩) ?_ ?_
  · exact ⟨_, _, Wk.refl _, 0, Nat.zero_le _, rfl, by simp, rfl⟩
  · rintro n s ⟨k, hk, rfl, hinv, rfl⟩
    by_cases hlt : k < ls.length
    · have hx := nth_encPs hlt
      have hd : decide ((k : Int) < (ls.length : Int)) = true := by simp; omega
      have hc := Con.rl (walk84 l ls[k] hl (h _ (List.getElem_mem hlt))) 1000
      simp only [go_sem, hx, hd, Int.toNat_natCast, List.length_map, Nat.reduceAdd, Nat.reduceEqDiff, Nat.reduceBEq, Nat.reduceLeDiff, reduceCtorEq, ↓reduceIte]
      refine ⟨by omega, by decide, wps_call rfl hc ⟨rfl, trivial⟩ ?_⟩
      simp only [go_sem, Nat.reduceAdd, Nat.reduceEqDiff, Nat.reduceBEq, Nat.reduceLeDiff, reduceCtorEq, ↓reduceIte]
      refine ⟨fun hf => ?_, fun hf => ?_⟩
      · have : ls.findIdx? (meets l) = some k := by
          rw [List.findIdx?_eq_some_iff_getElem]
          exact ⟨hlt, hf, fun j hj => by rw [hinv j (by omega) hj]; decide⟩
        simp only [idxM, this]
      · refine ⟨ls.length - (k + 1), _, by omega, Wk.less ?_, k + 1, by omega, rfl, ?_, rfl⟩
        · simp only [go_sem, wrap64s k (by omega), Nat.reduceAdd, Nat.reduceEqDiff, Nat.reduceBEq, Nat.reduceLeDiff, reduceCtorEq, ↓reduceIte]
        · intro j h1 hj
          by_cases e : j = k
          · subst e; exact hf
          · exact hinv j h1 (by omega)
    · have hd : decide ((k : Int) < (ls.length : Int)) = false := by simp; omega
      simp only [go_sem, hd, Nat.reduceAdd, Nat.reduceEqDiff, Nat.reduceBEq, Nat.reduceLeDiff, reduceCtorEq, ↓reduceIte]
      have : ls.findIdx? (meets l) = none := by
        rw [List.findIdx?_eq_none_iff]
        intro x hx
        obtain ⟨j, hj, rfl⟩ := List.getElem_of_mem hx
        exact hinv j hj (by omega)
      simp only [idxM, this]

theorem two_dom {o1 o2 : Av.Obj} {i : Nat} (h : (get [(1000, o1), (1001, o2)] i).isSome = true) : i = 1000 ∨ i = 1001 := by
  simp only [Av.get] at h
  split at h
  · rename_i e; exact .inl e.symm
  · split at h
    · rename_i e; exact .inr e.symm
    · cases h

/-- a call that only reads two things of the caller's -/
theorem Con.two {P : Program} {f : Nat} {args : List Av} {o1 o2 : Av.Obj} {r : Dat} (h : Con P f args [(1000, o1), (1001, o2)] (.d r) []) (i j : Nat) (hij : i ≠ j)
    (hargs : ∀ c ∈ args, inT (get [(1000, o1), (1001, o2)]) c) (hcl : closed (get [(1000, o1), (1001, o2)])) :
    CallOK P f (args.map (Av.ren fun n => if n = 1000 then i else j)) [(i, some (o1.ren fun n => if n = 1000 then i else j)), (j, some (o2.ren fun n => if n = 1000 then i else j))] (.d r) [] := by
  have := h.call (fun n => if n = 1000 then i else j) (fun k hk => by rcases two_dom hk with rfl | rfl <;> decide) (fun a b ha hb e => ?_) hargs hcl [] (by simp) hcl trivial
  · simpa [Av.ren] using this
  · rcases two_dom ha with rfl | rfl <;> rcases two_dom hb with rfl | rfl
    · rfl
    · simp at e; exact absurd e hij
    · simp at e; exact absurd e.symm hij
    · rfl

theorem args2 (l : List Part) (v : Nat) (ls : List (List Part)) : ∀ c ∈ [Av.ms 1001 v, .clo (.func 84) [] [.ref 1000 0]], inT (get (T2 l v ls)) c := by
  intro c hc
  simp only [List.mem_cons, List.not_mem_nil, or_false] at hc
  rcases hc with rfl | rfl
  · rfl
  · exact ⟨trivial, rfl, trivial⟩

theorem call150 (l : List Part) (v : Nat) (ls : List (List Part)) (hl : l.length ≤ 68719476736) (hls : ls.length ≤ 68719476736) (h : ∀ x ∈ ls, x.length ≤ 68719476736) (i j : Nat) (hij : i ≠ j) :
    CallOK Tryz.prog 150 [.ms j v, .clo (.func 84) [] [.ref i 0]] [(i, some (.box [.d (encPs l)])), (j, some (.row v 1 (ls.map encPs)))] (.d (.int .i64 (idxM l ls))) [] := by
  have := Con.two (walk150 l v ls hl hls h) i j hij (args2 l v ls) (T2_closed l v ls)
  simp [Av.ren, Obj.ren, renL] at this
  exact this

def anyM (l : List Part) (ls : List (List Part)) : Bool := ls.any (meets l)
theorem walk83 (l : List Part) (v : Nat) (ls : List (List Part)) (hl : l.length ≤ 68719476736) (hls : ls.length ≤ 68719476736) (h : ∀ x ∈ ls, x.length ≤ 68719476736) :
    Con Tryz.prog 83 [.ms 1001 v, .clo (.func 84) [] [.ref 1000 0]] (T2 l v ls) (.d (.bool (anyM l ls))) [] := by
  refine ok83.con (k := false) (Nat.le_of_ble_eq_true rfl) (T2_closed l v ls) trivial ?_
  simp only [T2]
  simp only [go_sem, ir83, Nat.reduceAdd, Nat.reduceEqDiff, Nat.reduceBEq, Nat.reduceLeDiff, reduceCtorEq, ↓reduceIte]
  refine wps_call rfl (call150 l v ls hl hls h 1000 1001 (by decide)) ⟨rfl, rfl, trivial⟩ ?_
  have : decide (idxM l ls ≥ 0) = anyM l ls := by
    unfold idxM anyM
    cases e : ls.findIdx? (meets l) with
    | none =>
      rw [List.findIdx?_eq_none_iff] at e
      have : (ls.any (meets l)) = false := by rw [List.any_eq_false]; intro x hx; rw [e x hx]; decide
      rw [this]; simp
    | some k =>
      obtain ⟨h1, h2, _⟩ := List.findIdx?_eq_some_iff_getElem.1 e
      have : (ls.any (meets l)) = true := by rw [List.any_eq_true]; exact ⟨_, List.getElem_mem h1, h2⟩
      rw [this]; simp
  simp only [go_sem, this, Nat.reduceAdd, Nat.reduceEqDiff, Nat.reduceBEq, Nat.reduceLeDiff, reduceCtorEq, ↓reduceIte]

theorem call83 (l : List Part) (v : Nat) (ls : List (List Part)) (hl : l.length ≤ 68719476736) (hls : ls.length ≤ 68719476736) (h : ∀ x ∈ ls, x.length ≤ 68719476736) (i j : Nat) (hij : i ≠ j) :
    CallOK Tryz.prog 83 [.ms j v, .clo (.func 84) [] [.ref i 0]] [(i, some (.box [.d (encPs l)])), (j, some (.row v 1 (ls.map encPs)))] (.d (.bool (anyM l ls))) [] := by
  have := Con.two (walk83 l v ls hl hls h) i j hij (args2 l v ls) (T2_closed l v ls)
  simp [Av.ren, Obj.ren, renL] at this
  exact this

theorem parseL_len : ∀ (n : Nat) (s : Str) (ps : List Part), parseL n s = some ps → ps.length ≤ n
  | 0, s, ps, h => by simp only [parseL, Option.some.injEq] at h; subst h; simp
  | n + 1, s, ps, h => by
    simp only [parseL] at h
    split at h
    · cases h; simp
    · split at h
      · cases h
      · split at h
        · rename_i qs hq
          cases h
          have := parseL_len n _ qs hq
          simp only [List.length_cons]; omega
        · cases h
theorem parseS_len (s : Str) : (parseS s).1.length ≤ 68719476736 := by
  unfold parseS
  split
  · simp
  · split
    · simp
    · rename_i h
      split
      · rename_i ps hp
        split
        · simp
        · simp only; omega
      · simp

/-- the error of the rules of a mapping; seen: the paths of those before -/
noncomputable def formG : List Rule → List (List Part) → Int
  | [], _ => 0
  | r :: rs, seen => if (parseS r.target).2 != 0 then (parseS r.target).2 else if anyK (parseS r.target).1 then 22 else if anyM (parseS r.target).1 seen then 7 else formG rs (seen ++ [(parseS r.target).1])
noncomputable def formV (m : List Rule) : Int := if (m.length : Int) > 256 then 9 else formG m []

theorem walk41 (m : List Rule) (hm : ∀ r ∈ m, r.target.length ≤ 68719476736) : PCon Tryz.prog 41 [encM m] (.d (.int .i64 (formV m))) := by
  refine ok41.pcon (Nat.le_of_ble_eq_true rfl) trivial ?_
  simp only [encM]
  simp only [go_sem, ir41, List.length_map, Nat.reduceAdd, Nat.reduceEqDiff, Nat.reduceBEq, Nat.reduceLeDiff, reduceCtorEq, ↓reduceIte]
  refine ⟨fun h => ?_, fun h => ?_⟩
  · have : formV m = 9 := by unfold formV; rw [if_pos (by simpa using h)]
    rw [this]
  have hle : ¬ (m.length : Int) > 256 := by simpa using h
  have hV : formV m = formG m [] := by unfold formV; rw [if_neg hle]
  rw [hV]
  generalize hR : formG m [] = R
  refine wpc_loop (fun n st => ∃ (k : Nat) (seen : List (List Part)), k ≤ m.length ∧ n = m.length - k ∧ seen.length = k ∧ (∀ x ∈ seen, x.length ≤ 68719476736) ∧ R = formG (m.drop k) seen ∧
    st = ⟨[(3, .ms 39 k), (13, .d (.list 6 (m.map encR))), (14, .d (.int .i64 m.length)), (15, .d (.int .i64 k))], [(39, .row k 1 (seen.map encPs))]⟩) ?_ ?_
  · refine ⟨_, _, (Wk.nilT 3 39 1 rfl rfl (by decide)).trans (Wk.less ?_), 0, [], Nat.zero_le _, rfl, rfl, by simp, hR.symm, rfl⟩
    simp [put, go_sem]
  · rintro n st ⟨k, seen, hk, rfl, hsl, hsb, hinv, rfl⟩
    by_cases hlt : k < m.length
    · have hx := nth_encR hlt
      have hd : decide ((k : Int) < (m.length : Int)) = true := by simp; omega
      rw [List.drop_eq_getElem_cons hlt, formG] at hinv
      have hpl := parseS_len m[k].target
      simp only [go_sem, hx, hd, Int.toNat_natCast, List.length_map, Nat.reduceAdd, Nat.reduceEqDiff, Nat.reduceBEq, Nat.reduceLeDiff, reduceCtorEq, ↓reduceIte]
      refine ⟨by omega, wps_call rfl ((walk80 _ (hm _ (List.getElem_mem hlt))).call (by simp [pureR])) trivial ?_⟩
      generalize hps : parseS m[k].target = pr at *
      obtain ⟨l, e⟩ := pr
      simp only at hinv hpl
      simp only [go_sem, Nat.reduceAdd, Nat.reduceEqDiff, Nat.reduceBEq, Nat.reduceLeDiff, reduceCtorEq, ↓reduceIte]
      refine ⟨fun hf => ?_, fun hf => ?_⟩
      · rw [if_pos hf] at hinv
        rw [hinv]
      rw [if_neg (by simp [hf])] at hinv
      refine wps_call rfl ((walk81 l hpl).call trivial) trivial ?_
      simp only [go_sem, Nat.reduceAdd, Nat.reduceEqDiff, Nat.reduceBEq, Nat.reduceLeDiff, reduceCtorEq, ↓reduceIte]
      refine ⟨fun hf => ?_, fun hf => ?_⟩
      · rw [if_pos hf] at hinv
        rw [hinv]
      rw [if_neg (by simp [hf])] at hinv
      refine wps_call rfl (call83 l k seen hpl (by omega) hsb 6 39 (by decide)) ⟨rfl, rfl, trivial⟩ ?_
      simp only [go_sem, Nat.reduceAdd, Nat.reduceEqDiff, Nat.reduceBEq, Nat.reduceLeDiff, reduceCtorEq, ↓reduceIte]
      refine ⟨fun hf => ?_, fun hf => ?_⟩
      · rw [if_pos hf] at hinv
        rw [hinv]
      rw [if_neg (by simp [hf])] at hinv
      refine ⟨by simp, by simp; omega, m.length - (k + 1), _, by omega, Wk.less ?_, k + 1, seen ++ [l], by omega, rfl, by simp [hsl], ?_, hinv, rfl⟩
      · simp only [go_sem, encPs, wrap64s k (by omega), List.map_append, List.map_cons, List.map_nil, Nat.reduceAdd, Nat.reduceEqDiff, Nat.reduceBEq, Nat.reduceLeDiff, reduceCtorEq, ↓reduceIte]
      · intro x hx
        rcases List.mem_append.1 hx with hx | hx
        · exact hsb x hx
        · rw [List.mem_singleton.1 hx]; exact hpl
    · have hd : decide ((k : Int) < (m.length : Int)) = false := by simp; omega
      obtain rfl : k = m.length := by omega
      rw [List.drop_length, formG] at hinv
      simp only [go_sem, hd, hinv, Nat.reduceAdd, Nat.reduceEqDiff, Nat.reduceBEq, Nat.reduceLeDiff, reduceCtorEq, ↓reduceIte]
end Go.Proofs
