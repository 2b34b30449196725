/- From a function's code to its contract. -/
import Derived.Test.YtholoaojlcnacaaGreatDoorAvC
import Derived.Below
import Derived.Sort.Grow
import Derived.Sort.EncStr
import Derived.Lib.SlicesCompact
import Derived.Laws.AppendOwn
set_option linter.unusedVariables false
set_option linter.unusedSimpArgs false
set_option linter.unusedSectionVars false
namespace Av
open Go
variable [Glb] [Rls]

mutual
/-- nil slices in data as empty ones -/
def Dat.canon : Dat → Dat
  | .nil sz => .list sz []
  | .list sz xs => .list sz (canonL xs)
  | .agg cs => .agg (canonL cs)
  | .ptr cs => .ptr (canonL cs)
  | .iface t d => .iface t d.canon
  | x => x
def canonL : List Dat → List Dat
  | [] => []
  | x :: r => x.canon :: canonL r
end

theorem canonL_map : ∀ (xs : List Dat), canonL xs = xs.map Dat.canon
  | [] => by simp [canonL]
  | x :: r => by simp [canonL, canonL_map r]

theorem canon_cells (x : Dat) : x.canon.cells = x.cells.map Dat.canon := by
  cases x <;> simp [Dat.canon, Dat.cells, canonL_map]

theorem flat_canon (xs : List Dat) : flat (xs.map Dat.canon) = (flat xs).map Dat.canon := by
  induction xs with
  | nil => rfl
  | cons x xs ih => simp only [List.map_cons, flat, List.flatMap_cons, List.map_append] at ih ⊢; rw [canon_cells, ih]

theorem Rep.canon {A : Nat → Prop} {w : World} {x : Dat} {v : Value} (h : Rep A w x v) : Rep A w x.canon v := by
  induction h with
  | bool b => exact .bool b
  | int k n h => exact .int k n h
  | str s h => exact .str s h
  | nil sz a => exact .emp sz a 0
  | emp sz a cap => simp only [Dat.canon, canonL]; exact .emp sz a cap
  | list sz xs b o n cap vs hn hAb hl hc h1 hsz hh hvl hv ih =>
    simp only [Dat.canon, canonL_map]
    refine .list sz _ b o n cap vs (by simpa using hn) hAb (by simpa using hl) (by simpa using hc) h1 ?_ hh (by rw [flat_canon]; simpa using hvl) ?_
    · intro y hy
      obtain ⟨x, hx, rfl⟩ := List.mem_map.1 hy
      rw [canon_cells, List.length_map]
      exact hsz x hx
    · intro i c v hc hv
      rw [flat_canon, List.getElem?_map] at hc
      cases e : (flat xs)[i]? with
      | none => simp [e] at hc
      | some c0 => simp only [e, Option.map_some, Option.some.injEq] at hc; subst hc; exact ih i c0 v e hv
  | agg cs arr hl h1 hv ih =>
    simp only [Dat.canon, canonL_map]
    refine .agg _ arr (by simpa using hl) h1 ?_
    intro i c v hc hv
    rw [List.getElem?_map] at hc
    cases e : cs[i]? with
    | none => simp [e] at hc
    | some c0 => simp only [e, Option.map_some, Option.some.injEq] at hc; subst hc; exact ih i c0 v e hv
  | fn f fs cs a1 a2 h1 h2 hf hv ihf ihv => simp only [Dat.canon]; exact .fn f fs cs a1 a2 h1 h2 hf hv
  | ptr cs b o vs hAb h1 hh hvl hv ih =>
    simp only [Dat.canon, canonL_map]
    refine .ptr _ b o vs hAb h1 hh (by simpa using hvl) ?_
    intro i c v hc hv
    rw [List.getElem?_map] at hc
    cases e : cs[i]? with
    | none => simp [e] at hc
    | some c0 => simp only [e, Option.map_some, Option.some.injEq] at hc; subst hc; exact ih i c0 v e hv
  | map es r ents clk hAb hr hl hk hv ihk ihv => simp only [Dat.canon]; exact .map es r ents clk hAb hr hl hk hv
  | nilFn => exact .nilFn
  | nilPtr => exact .nilPtr
  | nilMap => exact .nilMap
  | nilIface => exact .nilIface
  | glo g => exact .glo g
  | iface t x v h ih => simp only [Dat.canon]; exact .iface t _ v ih
  | opq v h1 => exact .opq v h1

/-- where a function's results lie -/
inductive RI where
  | tmp (t : Nat)
  | cell (a : Nat) (n : Option Nat)
  deriving Inhabited

def trRes (P : Program) : ResultVar → Option RI
  | .tmp t => some (.tmp t)
  | .cell a t => (shT P t).map (.cell a)

def outs : List RI → St → Option (Prop × List Av)
  | [], _ => some (True, [])
  | .tmp t :: r, st => match get st.tm t, outs r st with
    | some c, some (p, cs) => some (p, c :: cs)
    | _, _ => none
  | .cell a n :: r, st => match step (get st.tm) (get st.hp) 0 (.ld n (.t a)), outs r st with
    | some x, some (p, cs) => some (x.c ∧ p, x.v :: cs)
    | _, _ => none

/-- is an object the caller's? -/
def mine : Av → Bool
  | .ref i _ | .ms i _ | .sub i _ _ _ | .el i _ _ _ | .mp i => decide (1000 ≤ i)
  | .tup _ | .any | .und => true
  | _ => false
/-- a part of a result: as data if it can be, else as it is -/
def part1 (H : Heap) (c : Av) : Prop × Av × List (Nat × Obj) := if mine c then (True, c, []) else match datum H c with
  | some (p, x, u) => (p, .d x.canon, u)
  | none => (True, c, [])
def parts1 (H : Heap) : List Av → Prop × List Av × List (Nat × Obj)
  | [] => (True, [], [])
  | c :: r => (((part1 H c).1 ∧ (parts1 (hputs H (part1 H c).2.2) r).1), (part1 H c).2.1 :: (parts1 (hputs H (part1 H c).2.2) r).2.1, (part1 H c).2.2 ++ (parts1 (hputs H (part1 H c).2.2) r).2.2)
/-- a result as data, or as a handle of an object, or as a closure -/
def finF (H : Heap) : Av → Option (Prop × Av × List (Nat × Obj))
  | .d x => some (True, .d x.canon, [])
  | .ref i off => some (True, .ref i off, [])
  | .el i ver k off => if 1000 ≤ i then some (True, .el i ver k off, []) else none
  | .mp i => if 1000 ≤ i then some (True, .mp i, []) else match datum H (.mp i) with
    | some (p, x, u) => some (p, .d x.canon, u)
    | none => none
  | .ms i ver => if 1000 ≤ i then some (True, .ms i ver, []) else match datum H (.ms i ver) with
    | some (p, x, u) => some (p, .d x.canon, u)
    | none => none
  | .sub i ver off len => if 1000 ≤ i then some (True, .sub i ver off len, []) else match datum H (.sub i ver off len) with
    | some (p, x, u) => some (p, .d x.canon, u)
    | none => none
  | .agg cs => match datum H (.agg cs) with
    | some (p, x, u) => some (p, .d x.canon, u)
    | none => some ((parts1 H cs).1, .agg (parts1 H cs).2.1, (parts1 H cs).2.2)
  | .clo f fs cs => match parts1 H fs with
    | (p, fs', u) => match parts1 (hputs H u) cs with
      | (q, cs', u') => match allD fs', allD cs' with
        | some a, some b => some (p ∧ q, .d (.fn f a b), u ++ u')
        | _, _ => some (p ∧ q, .clo f fs' cs', u ++ u')
  | _ => none

/-- a result as it is: new objects are the caller's then -/
def finK : Av → Option (Prop × Av × List (Nat × Obj))
  | .tup _ | .any | .und => none
  | c => some (True, c, [])
def fin1 (k : Bool) (H : Heap) (c : Av) : Option (Prop × Av × List (Nat × Obj)) := match k with
  | true => finK c
  | false => finF H c

def fins (k : Bool) (H : Heap) : List Av → Option (Prop × List Av × List (Nat × Obj))
  | [] => some (True, [], [])
  | c :: r => match fin1 k H c with
    | some (p, v, u) => match fins k (hputs H u) r with
      | some (q, vs, u') => some (p ∧ q, v :: vs, u ++ u')
      | none => none
    | none => none

def retV : List Av → Av
  | [c] => c
  | cs => .tup cs

def sameT (H H' : Heap) : List (Nat × Obj) → Prop
  | [] => True
  | e :: r => H e.1 = H' e.1 ∧ sameT H H' r

def EndsK (k : Bool) (ris : List RI) (T : List (Nat × Obj)) (v : Av) (ups : List (Nat × Obj)) (e : Exit) (st : St) : Prop :=
  (e = .normal ∨ e = .ret) ∧ match outs ris st with
    | some (p, cs) => p ∧ match fins k (get st.hp) cs with
      | some (q, rs, u) => q ∧ retV rs = v ∧ sameT (hputs (get st.hp) u) (hputs (get T) ups) (T ++ ups)
      | none => False
    | none => False

abbrev Ends := EndsK false

def enum : Nat → List Av → List (Nat × Av)
  | _, [] => []
  | n, c :: r => (n, c) :: enum (n + 1) r

theorem get_enum : ∀ (cs : List Av) (n t : Nat), get (enum n cs) t = if n ≤ t then cs[t - n]? else none
  | [], n, t => by simp [enum, get]
  | c :: r, n, t => by
    simp only [enum, get, get_enum r (n + 1) t]
    by_cases h : n = t
    · subst h; simp
    · rw [if_neg h]
      by_cases h2 : n + 1 ≤ t
      · rw [if_pos h2, if_pos (by omega)]
        have : t - n = (t - (n + 1)) + 1 := by omega
        rw [this, List.getElem?_cons_succ]
      · rw [if_neg h2, if_neg (by omega)]

section
variable {P : Program} {β : Blocks} {A : Nat → Prop} {w : World} {H : Heap} {a : Act} {st : St}

theorem part1_ok {c : Av} {u : Value} (hc : Core β A w H) (hp : (part1 H c).1) (hv : VRep β A w H c u) :
    ∃ A', Stp β A w H β A' w (hputs H (part1 H c).2.2) ∧ VRep β A' w (hputs H (part1 H c).2.2) (part1 H c).2.1 u ∧ ∀ k, A k → A' k := by
  unfold part1 at hp ⊢
  by_cases hm : mine c = true
  · simp only [hm, if_true] at hp ⊢
    exact ⟨A, Stp.refl hc, hv, fun _ h => h⟩
  · simp only [hm, Bool.false_eq_true, if_false] at hp ⊢
    cases hd : datum H c with
    | none => exact ⟨A, Stp.refl hc, hv, fun _ h => h⟩
    | some q =>
      obtain ⟨p, x, us⟩ := q
      simp only [hd] at hp ⊢
      obtain ⟨A', g1, g2, g3⟩ := datum_ok hc hd hp hv
      exact ⟨A', g1, .d _ _ g2.canon, g3⟩

theorem parts1_ok : ∀ {cs : List Av} {us : List Value} {A : Nat → Prop} {H : Heap}, Core β A w H → (parts1 H cs).1 → cs.length = us.length →
    (∀ (i : Nat) c v, cs[i]? = some c → us[i]? = some v → VRep β A w H c v) →
    ∃ A', Stp β A w H β A' w (hputs H (parts1 H cs).2.2) ∧ (parts1 H cs).2.1.length = us.length ∧ (∀ (i : Nat) c v, (parts1 H cs).2.1[i]? = some c → us[i]? = some v → VRep β A' w (hputs H (parts1 H cs).2.2) c v) ∧ ∀ k, A k → A' k
  | [], us, A, H, hc, hp, hl, hv => ⟨A, Stp.refl hc, hl, by simp [parts1], fun _ h => h⟩
  | c :: cs, [], A, H, hc, hp, hl, hv => by simp at hl
  | c :: cs, u :: us, A, H, hc, hp, hl, hv => by
    simp only [parts1] at hp ⊢
    obtain ⟨A1, s1, r1, m1⟩ := part1_ok hc hp.1 (hv 0 c u rfl rfl)
    obtain ⟨A2, s2, l2, r2, m2⟩ := parts1_ok s1.core hp.2 (us := us) (by simpa using hl) (fun i c' v' h1 h2 => s1.vals _ _ (hv (i + 1) c' v' (by simpa using h1) (by simpa using h2)))
    refine ⟨A2, by rw [hputs_append]; exact s1.trans s2, by simp [l2], ?_, fun k h => m2 k (m1 k h)⟩
    rw [hputs_append]
    intro i z v h1 h2
    cases i with
    | zero => simp at h1 h2; rw [← h1, ← h2]; exact s2.vals _ _ r1
    | succ i => exact r2 i z v (by simpa using h1) (by simpa using h2)

theorem finF_ok {c v : Av} {u : Value} {p : Prop} {ups : List (Nat × Obj)} (hc : Core β A w H) (h : finF H c = some (p, v, ups)) (hp : p) (hv : VRep β A w H c u) :
    ∃ A', Stp β A w H β A' w (hputs H ups) ∧ VRep β A' w (hputs H ups) v u ∧ ∀ k, A k → A' k := by
  have dd : ∀ {c : Av} {p : Prop} {x : Dat} {us : List (Nat × Obj)}, datum H c = some (p, x, us) → p → VRep β A w H c u → ∃ A', Stp β A w H β A' w (hputs H us) ∧ VRep β A' w (hputs H us) (.d x.canon) u ∧ ∀ k, A k → A' k := by
    intro c p x us h hp hv
    obtain ⟨A', g1, g2, g3⟩ := datum_ok hc h hp hv
    exact ⟨A', g1, .d _ _ g2.canon, g3⟩
  have same : ∀ {c : Av}, VRep β A w H c u → ∃ A', Stp β A w H β A' w (hputs H []) ∧ VRep β A' w (hputs H []) c u ∧ ∀ k, A k → A' k := fun hv => ⟨A, Stp.refl hc, hv, fun _ h => h⟩
  unfold finF at h
  split at h
  · cases h; exact ⟨A, Stp.refl hc, .d _ _ hv.of_d.canon, fun _ h => h⟩
  · cases h
    exact same hv
  · split at h <;> cases h
    exact same hv
  · split at h
    · cases h; exact same hv
    · split at h
      · rename_i q x us hd; cases h; exact dd hd hp hv
      · cases h
  · split at h
    · cases h; exact same hv
    · split at h
      · rename_i q x us hd; cases h; exact dd hd hp hv
      · cases h
  · split at h
    · cases h; exact same hv
    · split at h
      · rename_i q x us hd; cases h; exact dd hd hp hv
      · cases h
  · rename_i cs
    split at h
    · rename_i q x us hd; cases h; exact dd hd hp hv
    · simp only [Option.some.injEq, Prod.mk.injEq] at h
      obtain ⟨rfl, rfl, rfl⟩ := h
      cases hv with
      | agg _ arr hl h1 hv =>
        obtain ⟨A', s1, l1, r1, m1⟩ := parts1_ok hc hp (us := arr.toList) (by simpa using hl) (fun i c v h1 h2 => hv i c v h1 (by simpa using h2))
        exact ⟨A', s1, .agg _ _ (by simpa using l1) h1 (fun i c v h1 h2 => r1 i c v h1 (by simpa using h2)), m1⟩
  · rename_i f fs cs
    cases hv with
    | clo _ _ _ a1 a2 h1 h2 hf hv =>
      have key : ∀ p' (x' : Av) u', (parts1 H fs).1 ∧ (parts1 (hputs H (parts1 H fs).2.2) cs).1 ∧ u' = (parts1 H fs).2.2 ++ (parts1 (hputs H (parts1 H fs).2.2) cs).2.2 ∧ p' ∧
          (x' = .clo f (parts1 H fs).2.1 (parts1 (hputs H (parts1 H fs).2.2) cs).2.1 ∨ ∃ a b, allD (parts1 H fs).2.1 = some a ∧ allD (parts1 (hputs H (parts1 H fs).2.2) cs).2.1 = some b ∧ x' = .d (.fn f a b)) →
          ∃ A', Stp β A w H β A' w (hputs H u') ∧ VRep β A' w (hputs H u') x' (.func f a1 a2) ∧ ∀ k, A k → A' k := by
        rintro p' x' u' ⟨q1, q2, rfl, _, hx⟩
        obtain ⟨A1, s1, l1, r1, m1⟩ := parts1_ok hc q1 (us := a1.toList) (by simpa using h1) (fun i c v e1 e2 => hf i c v e1 (by simpa using e2))
        obtain ⟨A2, s2, l2, r2, m2⟩ := parts1_ok s1.core q2 (us := a2.toList) (by simpa using h2) (fun i c v e1 e2 => s1.vals _ _ (hv i c v e1 (by simpa using e2)))
        refine ⟨A2, by rw [hputs_append]; exact s1.trans s2, ?_, fun k h => m2 k (m1 k h)⟩
        rw [hputs_append]
        rcases hx with rfl | ⟨a, b, ha, hb, rfl⟩
        · exact .clo _ _ _ _ _ (by simpa using l1) (by simpa using l2) (fun i c v e1 e2 => s2.vals _ _ (r1 i c v e1 (by simpa using e2))) (fun i c v e1 e2 => r2 i c v e1 (by simpa using e2))
        · obtain ⟨la, ga⟩ := allD_get ha
          obtain ⟨lb, gb⟩ := allD_get hb
          exact .d _ _ (.fn _ _ _ _ _ (by rw [← la]; simpa using l1) (by rw [← lb]; simpa using l2) (fun i c v e1 e2 => (s2.vals _ _ (r1 i _ v (ga i c e1) (by simpa using e2))).of_d) (fun i c v e1 e2 => (r2 i _ v (gb i c e1) (by simpa using e2)).of_d))
      split at h
      rename_i p1 fs' u1 e1
      split at h
      rename_i q1 cs' u2 e2
      have e1' : (parts1 H fs).1 = p1 ∧ (parts1 H fs).2.1 = fs' ∧ (parts1 H fs).2.2 = u1 := by rw [e1]; exact ⟨rfl, rfl, rfl⟩
      obtain ⟨f1, f2, f3⟩ := e1'
      rw [← f3] at e2
      have e2' : (parts1 (hputs H (parts1 H fs).2.2) cs).1 = q1 ∧ (parts1 (hputs H (parts1 H fs).2.2) cs).2.1 = cs' ∧ (parts1 (hputs H (parts1 H fs).2.2) cs).2.2 = u2 := by rw [e2]; exact ⟨rfl, rfl, rfl⟩
      obtain ⟨g1, g2, g3⟩ := e2'
      split at h
      · rename_i a b ha hb
        simp only [Option.some.injEq, Prod.mk.injEq] at h
        obtain ⟨rfl, rfl, rfl⟩ := h
        exact key True _ _ ⟨by rw [f1]; exact hp.1, by rw [g1]; exact hp.2, by rw [g3, f3], trivial, .inr ⟨a, b, by rw [f2]; exact ha, by rw [g2]; exact hb, rfl⟩⟩
      · simp only [Option.some.injEq, Prod.mk.injEq] at h
        obtain ⟨rfl, rfl, rfl⟩ := h
        exact key True _ _ ⟨by rw [f1]; exact hp.1, by rw [g1]; exact hp.2, by rw [g3, f3], trivial, .inl (by rw [f2, g2])⟩
  · cases h

theorem fin1_ok {k : Bool} {c v : Av} {u : Value} {p : Prop} {ups : List (Nat × Obj)} (hc : Core β A w H) (h : fin1 k H c = some (p, v, ups)) (hp : p) (hv : VRep β A w H c u) :
    ∃ A', Stp β A w H β A' w (hputs H ups) ∧ VRep β A' w (hputs H ups) v u ∧ ∀ k, A k → A' k := by
  cases k with
  | false => exact finF_ok hc h hp hv
  | true =>
    have h : finK c = some (p, v, ups) := h
    unfold finK at h
    split at h
    · cases h
    · cases h
    · cases h
    · cases h; exact ⟨A, Stp.refl hc, hv, fun _ h => h⟩

theorem fins_ok {k : Bool} : ∀ {cs : List Av} {us : List Value} {A : Nat → Prop} {H : Heap} {p : Prop} {vs : List Av} {ups : List (Nat × Obj)}, Core β A w H → fins k H cs = some (p, vs, ups) → p → cs.length = us.length →
    (∀ (i : Nat) c v, cs[i]? = some c → us[i]? = some v → VRep β A w H c v) →
    ∃ A', Stp β A w H β A' w (hputs H ups) ∧ vs.length = us.length ∧ (∀ (i : Nat) c v, vs[i]? = some c → us[i]? = some v → VRep β A' w (hputs H ups) c v) ∧ ∀ k, A k → A' k
  | [], us, A, H, p, vs, ups, hc, h, hp, hl, hv => by
    simp only [fins, Option.some.injEq, Prod.mk.injEq] at h
    obtain ⟨_, rfl, rfl⟩ := h
    exact ⟨A, Stp.refl hc, hl, by simp, fun _ h => h⟩
  | c :: cs, [], A, H, p, vs, ups, hc, h, hp, hl, hv => by simp at hl
  | c :: cs, u :: us, A, H, p, vs, ups, hc, h, hp, hl, hv => by
    simp only [fins] at h
    cases e1 : fin1 k H c with
    | none => simp [e1] at h
    | some q =>
      obtain ⟨p1, x, u1⟩ := q
      simp only [e1] at h
      cases e2 : fins k (hputs H u1) cs with
      | none => simp [e2] at h
      | some q2 =>
        obtain ⟨p2, xs', u2⟩ := q2
        simp only [e2, Option.some.injEq, Prod.mk.injEq] at h
        obtain ⟨rfl, rfl, rfl⟩ := h
        obtain ⟨A1, s1, r1, m1⟩ := fin1_ok hc e1 hp.1 (hv 0 c u rfl rfl)
        obtain ⟨A2, s2, l2, r2, m2⟩ := fins_ok s1.core e2 hp.2 (us := us) (by simpa using hl) (fun i c' v' h1 h2 => s1.vals _ _ (hv (i + 1) c' v' (by simpa using h1) (by simpa using h2)))
        refine ⟨A2, by rw [hputs_append]; exact s1.trans s2, by simp [l2], ?_, fun k h => m2 k (m1 k h)⟩
        rw [hputs_append]
        intro i z v h1 h2
        cases i with
        | zero => simp at h1 h2; rw [← h1, ← h2]; exact s2.vals _ _ r1
        | succ i => exact r2 i z v (by simpa using h1) (by simpa using h2)

def resOne (tmps : Array Value) : ResultVar → Sem Value
  | .tmp t => pure (tmps.getD t undef)
  | .cell ad t => do loadVar t (← asAddr (tmps.getD ad undef))

theorem fin1_ntup {k : Bool} {c v : Av} {p : Prop} {u : List (Nat × Obj)} (h : fin1 k H c = some (p, v, u)) : ∀ l, v ≠ .tup l := by
  intro l hl
  subst hl
  cases k with
  | false =>
    have h : finF H c = some (p, .tup l, u) := h
    unfold finF at h
    repeat' split at h
    all_goals cases h
  | true =>
    have h : finK c = some (p, .tup l, u) := h
    cases c <;> simp [finK] at h

theorem fins_ntup {k : Bool} : ∀ {cs vs : List Av} {H : Heap} {p : Prop} {u : List (Nat × Obj)}, fins k H cs = some (p, vs, u) → ∀ c ∈ vs, ∀ l, c ≠ .tup l
  | [], vs, H, p, u, h => by simp only [fins, Option.some.injEq, Prod.mk.injEq] at h; obtain ⟨_, rfl, _⟩ := h; simp
  | c :: cs, vs, H, p, u, h => by
    simp only [fins] at h
    cases e1 : fin1 k H c with
    | none => simp [e1] at h
    | some q =>
      obtain ⟨p1, x, u1⟩ := q
      simp only [e1] at h
      cases e2 : fins k (hputs H u1) cs with
      | none => simp [e2] at h
      | some q2 =>
        obtain ⟨p2, xs', u2⟩ := q2
        simp only [e2, Option.some.injEq, Prod.mk.injEq] at h
        obtain ⟨_, rfl, _⟩ := h
        intro c' hc'
        rcases List.mem_cons.1 hc' with rfl | h
        · exact fin1_ntup e1
        · exact fins_ntup e2 c' h

/-- the results are read -/
theorem outs_ok {N : Nat} (hs : SatB N st a w β A) : ∀ {rvs : List ResultVar} {ris : List RI} {p : Prop} {cs : List Av}, allSome (rvs.map (trRes P)) = some ris → outs ris st = some (p, cs) → p →
    ∃ us : List Value, (rvs.mapM (resOne a.tmps)).run P w = .ok us w ∧ cs.length = us.length ∧
      ∀ (i : Nat) c v, cs[i]? = some c → us[i]? = some v → VRep β A w (get st.hp) c v
  | [], ris, p, cs, h1, h2, hp => by
    simp only [List.map_nil, allSome, Option.some.injEq] at h1
    subst h1
    simp only [outs, Option.some.injEq, Prod.mk.injEq] at h2
    obtain ⟨_, rfl⟩ := h2
    exact ⟨[], by simp, rfl, by simp⟩
  | rv :: rvs, ris, p, cs, h1, h2, hp => by
    simp only [List.map_cons] at h1
    cases e1 : trRes P rv with
    | none => simp [e1, allSome] at h1
    | some ri =>
      simp only [e1, allSome] at h1
      obtain ⟨ris', h3, rfl⟩ := map_some_eq h1
      have fin : ∀ (c : Av) (q : Prop) (cs' : List Av) (u : Value), outs ris' st = some (q, cs') → q → VRep β A w (get st.hp) c u →
          (resOne a.tmps rv).run P w = .ok u w → cs = c :: cs' →
          ∃ us : List Value, ((rv :: rvs).mapM (resOne a.tmps)).run P w = .ok us w ∧ cs.length = us.length ∧
            ∀ (i : Nat) c v, cs[i]? = some c → us[i]? = some v → VRep β A w (get st.hp) c v := by
        intro c q cs' u h2' hq hv hr hcs
        subst hcs
        obtain ⟨us, g1, g2, g3⟩ := outs_ok hs h3 h2' hq
        refine ⟨u :: us, ?_, by simp [g2], ?_⟩
        · rw [List.mapM_cons]
          simp only [Sem.run_bind, hr, Result.andThen_ok, g1, Sem.run_pure]
        · intro i c' v' hc' hv'
          cases i with
          | zero => simp at hc' hv'; rw [← hc', ← hv']; exact hv
          | succ i => exact g3 i c' v' (by simpa using hc') (by simpa using hv')
      cases rv with
      | tmp t =>
        simp only [trRes, Option.some.injEq] at e1
        subst e1
        simp only [outs] at h2
        split at h2
        · rename_i c q cs' hc hq
          cases h2
          obtain ⟨u, g1, g2⟩ := hs.tmps t c hc
          exact fin c p cs' u hq hp g2 (by simp [resOne, Array.getD_eq_getD_getElem?, g1]) rfl
        · cases h2
      | cell ad t =>
        obtain ⟨n, hn, rfl⟩ := map_some_eq (by simpa only [trRes] using e1)
        simp only [outs] at h2
        split at h2
        · rename_i x q cs' hx hq
          cases h2
          obtain ⟨u, hrun, hv, _⟩ := ld_ok (P := P) (a := a) (o := { dst := none, op := .load t (.tmp ad), type := 0, pos := "", after := #[], guard := none }) hs.core hs.tmps rfl hn rfl hx hp.1
          refine fin x.v q cs' u hq hp.2 hv ?_ rfl
          simp only [execOp, Instr.loadAt, Act.eval] at hrun
          simp only [resOne]
          generalize a.tmps.getD ad undef = z at hrun ⊢
          cases z with
          | pointer ad' =>
            cases ad' with
            | none => simp [Instr.sureAddr, Sem.run_bind] at hrun
            | some ad' =>
              simp only [Instr.sureAddr, asAddr, Sem.run_bind, Sem.run_pure, Result.andThen_ok] at hrun ⊢
              generalize (loadVar t ad').run P w = rr at hrun ⊢
              cases rr with
              | ok u' w' => simp at hrun; obtain ⟨rfl, rfl⟩ := hrun; rfl
              | halt _ _ => simp at hrun
          | _ => simp [Instr.sureAddr, Sem.run_bind] at hrun
        · cases h2

theorem Av.ren_id (c : Av) : c.ren id = c :=
  Av.rec (motive_1 := fun c => c.ren id = c) (motive_2 := fun cs => renL id cs = cs) (fun _ => rfl) (fun _ _ => rfl) (fun _ _ => rfl) (fun _ _ _ _ => rfl) (fun _ _ _ _ => rfl)
    (fun cs ih => by simp only [Av.ren, ih]) (fun cs ih => by simp only [Av.ren, ih]) (fun f a b iha ihb => by simp only [Av.ren, iha, ihb]) (fun _ => rfl) rfl rfl rfl (fun c r ihc ihr => by simp only [renL, ihc, ihr]) c
theorem renT_id : ∀ l : List (Nat × Av), renT id l = l
  | [] => rfl
  | (t, c) :: r => by simp only [renT, Av.ren_id, renT_id r]
theorem renL_id (cs : List Av) : renL id cs = cs := by rw [renL_map]; induction cs with | nil => rfl | cons c r ih => simp only [List.map_cons, Av.ren_id, ih]
theorem Obj.ren_id (o : Obj) : o.ren id = o := by
  cases o with
  | box cs => simp only [Obj.ren, renL_id]
  | lp l => simp only [Obj.ren, renT_id]
  | _ => rfl

theorem sameT_ok {H H' : Heap} : ∀ {T : List (Nat × Obj)}, sameT H H' T → ∀ e ∈ T, H e.1 = H' e.1
  | [], _, _, h => by cases h
  | e :: r, hs, e', h => by
    rcases List.mem_cons.1 h with rfl | h
    · exact hs.1
    · exact sameT_ok hs.2 e' h

/-- a part of the objects -/
theorem cut_ok {E : Ent} {G1 H2 : Heap} {β' : Blocks} {A' : Nat → Prop} {w' : World} (hs : Since E β' A' w' H2) (hc : Core β' A' w' H2) (hle : ∀ i o, G1 i = some o → H2 i = some o) (hcl : closed G1) (hdom : ∀ i, (E.H i).isSome = true → (G1 i).isSome = true) :
    Since E β' A' w' G1 ∧ Core β' A' w' G1 ∧ ∀ c u, inT G1 c → VRep β' A' w' H2 c u → VRep β' A' w' G1 c u := by
  have hun : Under id G1 H2 := fun i o hi => by rw [Obj.ren_id]; exact hle i o hi
  have cut : ∀ c u, inT G1 c → VRep β' A' w' H2 c u → VRep β' A' w' G1 c u := fun c u hin hvr => VRep.unren (ρ := id) (β := β') hun hvr c (Av.ren_id c).symm hin
  refine ⟨⟨hs.os, hs.tape, hs.output, hs.size, hs.same, hs.loops, hs.data, fun i o b hi hl hb => hs.mine i o b (hle i o hi) hl hb, ?_⟩, Core.unren (ρ := id) (β := β') hc hun (fun _ _ _ _ h => h) hcl, cut⟩
  intro c u hb hvr
  refine cut c u ?_ (hs.vals c u hb hvr)
  cases hvr with
  | d _ _ _ => trivial
  | ref _ _ _ _ _ _ h0 _ _ => exact hdom _ h0
  | ms _ _ _ _ h0 _ _ => exact hdom _ h0
  | sub _ _ _ _ _ _ h0 _ _ => exact hdom _ h0
  | el _ _ _ _ _ _ _ _ h0 _ => exact hdom _ h0
  | mp _ _ _ h0 _ _ _ => exact hdom _ h0
  | _ => exact hb.elim

/-- a block of nobody's is turned -/
theorem Core.nobody (hc : Core β A w H) {r : Nat} {o' : Go.Obj} (hA : ¬ A r) (hn : ∀ i o, H i = some o → o.live = true → β i ≠ some r) :
    Core β A (w.putObj r o') H ∧ ∀ c u, VRep β A w H c u → VRep β A (w.putObj r o') H c u := by
  have hsA : SameOn A w (w.putObj r o') := fun b hb => World.putObj_heap_other (fun e => hA (e ▸ hb))
  have hoth : ∀ j o b, H j = some o → o.live = true → β j = some b → (w.putObj r o').heap[b]? = w.heap[b]? := fun j o b h1 h2 h3 => World.putObj_heap_other (fun e => hn j o h1 h2 (by rw [h3, e]))
  have hd : ∀ x u, Rep A w x u → Rep A (w.putObj r o') x u := fun x u h => h.mono hsA fun _ h => h
  have hall : ∀ c u, VRep β A w H c u → VRep β A (w.putObj r o') H c u := by
    refine VRep.of_base hd ?_ ?_ ?_ ?_ ?_
    · intro i off u h
      cases h with | ref _ _ b p _ hu h0 h1 h2 => exact .ref _ _ b p _ hu h0 h1 fun ds hds => hd _ _ (h2 ds hds)
    · intro i ver u h
      cases h with
      | ms _ _ _ hu h0 h1 h2 =>
        refine .ms _ _ _ hu h0 ?_ fun sz xs hds => hd _ _ (h2 sz xs hds)
        intro v' sz xs hr
        obtain ⟨hle, hx⟩ := h1 v' sz xs hr
        refine ⟨hle, fun hve => ?_⟩
        rcases hx hve with ⟨e1, e2⟩ | ⟨b, C, T, fz, cap, e1, e2, e3⟩
        · exact .inl ⟨e1, e2⟩
        · exact .inr ⟨b, C, T, fz, cap, e1, by rw [hoth i _ b hr rfl e1]; exact e2, e3⟩
    · intro i ver off len u h
      cases h with
      | sub _ _ _ _ _ hu h0 h1 h2 =>
        refine .sub _ _ _ _ _ hu h0 ?_ fun sz xs hds => hd _ _ (h2 sz xs hds)
        intro v' sz xs hr
        obtain ⟨hle, hx⟩ := h1 v' sz xs hr
        refine ⟨hle, fun hve => ?_⟩
        obtain ⟨g, ⟨e1, e2⟩ | ⟨b, C, T, fz, cap, ad, e1, e2, e3⟩⟩ := hx hve
        · exact ⟨g, .inl ⟨e1, e2⟩⟩
        · exact ⟨g, .inr ⟨b, C, T, fz, cap, ad, e1, by rw [hoth i _ b hr rfl e1]; exact e2, e3⟩⟩
    · intro i ver k off u h
      cases h with | el _ _ _ _ b p _ hu h0 h1 => exact .el _ _ _ _ b p _ hu h0 h1
    · intro i u h
      cases h with | mp _ _ hu h0 h1 h2 h3 => exact .mp _ _ hu h0 h1 h2 h3
  exact ⟨⟨fun i o h => (hc.objs i o h).mono hall hsA (fun _ h => h) rfl fun b hb hl => hoth i o b h hl hb, hc.inj, hc.sep, fun b hb => by simpa using hc.old b hb, fun g cs hg => (hc.glob g cs hg).mono hsA fun _ h => h⟩, hall⟩

/-- a function leaves: the marks of its loops are taken -/
theorem leave_marks {E : Ent} {N : Nat} {n : Nat} {fn : Func} {R : Ending → World → Prop} : ∀ (ms : List Nat) (a : Act) (w : World), ms.Nodup → a.defers = ms.map (fun r => { target := .collected r, args := #[] }) →
    (∀ r ∈ ms, E.w.heap.size ≤ r ∧ w.heap[r]? = some (.deferred (some [])) ∧ ¬ A r ∧ ∀ i o, get st.hp i = some o → o.live = true → β i ≠ some r) → Since E β A w (get st.hp) → SatB N st a w β A →
    (∀ w', Since E β A w' (get st.hp) → SatB N st { a with defers := [] } w' β A → ∃ v, (results fn a.tmps).run P w' = .ok v w' ∧ R (.returned v) w') → LeavesInM Fence.wide n P fn a.tmps R a.defers .returning w
  | [], a, w, _, hd, _, hs, hb, hk => by
    rw [hd]
    simp only [List.map_nil, LeavesInM, LeavesIn]
    exact hk w hs ⟨hb.core, hb.tmps, hb.size⟩
  | r :: ms, a, w, hnd, hd, hm, hs, hb, hk => by
    rw [hd]
    simp only [List.map_cons, LeavesInM]
    refine ⟨by simp, .inl ⟨r, _, rfl, run_takeDeferred (hm r List.mem_cons_self).2.1, ?_⟩⟩
    obtain ⟨g1, g2, g3, g4⟩ := hm r List.mem_cons_self
    obtain ⟨c1, v1⟩ := hb.core.nobody (o' := .deferred none) g3 g4
    have hnd' := List.nodup_cons.1 hnd
    have hs' : Since E β A (w.putObj r (.deferred none)) (get st.hp) := by
      refine ⟨hs.os, hs.tape, hs.output, by simpa using hs.size, ?_, ?_, hs.data, hs.mine, fun c u hbs hv => v1 _ _ (hs.vals c u hbs hv)⟩
      · intro b hlt hn
        rw [World.putObj_heap_other (by omega)]
        exact hs.same b hlt hn
      · intro b l hl
        obtain ⟨l', h'⟩ := hs.loops b l hl
        refine ⟨l', ?_⟩
        rw [World.putObj_heap_other]
        · exact h'
        · intro e; subst e; rw [g2] at h'; cases h'
    have := leave_marks (n := n) (fn := fn) (R := R) (E := E) (N := N) ms { a with defers := ms.map (fun r => { target := .collected r, args := #[] }) } (w.putObj r (.deferred none)) hnd'.2 rfl ?_ hs' ⟨c1, fun t v ht => by obtain ⟨u, q1, q2⟩ := hb.tmps t v ht; exact ⟨u, q1, v1 _ _ q2⟩, hb.size⟩ hk
    · exact this
    · intro r' hr'
      obtain ⟨q1, q2, q3, q4⟩ := hm r' (List.mem_cons_of_mem _ hr')
      refine ⟨q1, ?_, q3, q4⟩
      rw [World.putObj_heap_other (by intro e; subst e; exact hnd'.1 hr')]
      exact q2

/-- the contract of a function, from its code -/
theorem Con.of_code {k : Bool} {f : Nat} {fn : Func} {code : Code} {ic : Ic} {ris : List RI} {args : List Av} {T : List (Nat × Obj)} {v : Av} {ups : List (Nat × Obj)} (hf : P.funcs[f]? = some fn) (hb : fn.body = some code)
    (hname : (fn.name == "runtime.NumGoroutine") = false) (htr : trCode P fn.ntmps code = some (strip ic)) (hres : allSome (fn.results.toList.map (trRes P)) = some ris) (hn : args.length ≤ fn.ntmps)
    (hcl : closed (hputs (get T) ups)) (hv : inT (hputs (get T) ups) v)
    (hw : wpc P D0 ic (EndsK k ris T v ups) ⟨enum 0 args, T⟩) : Con P f args T v ups := by
  refine ⟨⟨fn, hf, by rw [hb]; rfl, hname⟩, ?_⟩
  intro β A w vs hc hvs
  have hsize : args.length = vs.size := hvs.1
  refine callsIn_wide (n := 0) |>.1 (callsIn_of_wp_marks hf hb trivial ?_)
  have hsat : Sat ⟨β, A, w, get T, D0, none⟩ fn.ntmps ⟨enum 0 args, T⟩ { tmps := vs ++ Array.replicate (fn.ntmps - vs.size) undef, defers := [] } w β A := by
    refine ⟨hc, ?_, by simp; omega, ⟨rfl, rfl, rfl, Nat.le_refl _, fun _ _ _ => rfl, fun _ r h => ⟨r, h⟩, fun _ h => .inl h, fun i o b h1 h2 h3 => .inr ⟨i, o, h1, h2, h3⟩, fun _ _ _ h => h⟩, ⟨[], by simp, rfl, by simp⟩, by simp⟩
    intro t c ht
    simp only [get_enum, Nat.zero_le, if_true, Nat.sub_zero] at ht
    have hlt : t < args.length := (List.getElem?_eq_some_iff.1 ht).1
    have hvt : vs[t]? = some (vs[t]'(by omega)) := by simp [show t < vs.size by omega]
    exact ⟨vs[t]'(by omega), by rw [Array.getElem?_append_left (by omega)]; exact hvt, hvs.2 t c _ ht hvt⟩
  refine wpIn_mono (code_ok (E := ⟨β, A, w, get T, D0, none⟩) ic code _ _ _ w β A htr hw hsat) ?_
  rintro e a' w' ⟨st, β', A', ⟨he, hq⟩, hs⟩
  -- the results
  have main : ∀ w', Since ⟨β, A, w, get T, D0, none⟩ β' A' w' (get st.hp) → SatB fn.ntmps st { a' with defers := [] } w' β' A' →
      ∃ u, (results fn a'.tmps).run P w' = .ok u w' ∧ ∃ u' β' A', Ending.returned u = .returned u' ∧ Since ⟨β, A, w, get T, D0, none⟩ β' A' w' (hputs (get T) ups) ∧ Core β' A' w' (hputs (get T) ups) ∧ VRep β' A' w' (hputs (get T) ups) v u' := by
    intro w' hsince hsb
    split at hq
    case h_2 => exact hq.elim
    rename_i p cs ho
    obtain ⟨hp, hq⟩ := hq
    split at hq
    case h_2 => exact hq.elim
    rename_i q rs u0 hfi
    obtain ⟨hq', hret, hsame⟩ := hq
    obtain ⟨us, hrun, hlen, hval⟩ := outs_ok (P := P) hsb hres ho hp
    obtain ⟨A2, st2, hlen2, hval2, _⟩ := fins_ok hsb.core hfi hq' hlen hval
    have hsame' := sameT_ok hsame
    have hle : ∀ i o, hputs (get T) ups i = some o → hputs (get st.hp) u0 i = some o := by
      intro i o hi
      rcases hputs_dom' ups (get T) i (by rw [hi]; rfl) with h | ⟨e, he, rfl⟩
      · obtain ⟨o', ho'⟩ := Option.isSome_iff_exists.1 h
        rw [hsame' (i, o') (List.mem_append_left _ (get_mem T i o' ho')), hi]
      · rw [hsame' e (List.mem_append_right _ he), hi]
    obtain ⟨c1, c2, cut⟩ := cut_ok (hsince.trans st2) st2.core hle hcl (fun i hi => hputs_some ups _ i hi)
    refine ⟨if h : us.toArray.size = 1 then us.toArray[0] else .tuple us.toArray, ?_, _, β', A2, rfl, c1, c2, ?_⟩
    · have e : results fn a'.tmps = (do let vs ← fn.results.mapM (resOne a'.tmps); pure (if h : vs.size = 1 then vs[0] else .tuple vs)) := by
        unfold results
        congr 1
      rw [e, Array.mapM_eq_mapM_toList]
      simp only [Sem.run_bind, Sem.run_map, hrun, Sem.run_pure, Result.andThen_ok]
    · -- the value
      have tup : ∀ cs', v = .tup cs' → rs = cs' → us.toArray.size ≠ 1 → VRep β' A2 w' (hputs (get T) ups) v (if h : us.toArray.size = 1 then us.toArray[0] else .tuple us.toArray) := by
        intro cs' hv' hrs hne
        subst hv' hrs
        rw [dif_neg hne]
        refine .tup _ _ (by simpa using hlen2) ?_
        intro i c z hi hz
        exact cut c z (idsInL_get hv i c hi) (hval2 i c z hi (by simpa using hz))
      match rs, hret, hlen2, hval2, tup with
      | [c], hret, hlen2, hval2, _ =>
        have e : c = v := hret
        subst e
        have h1 : us.toArray.size = 1 := by simpa using hlen2.symm
        rw [dif_pos h1]
        have h0 : us[0]? = some us.toArray[0] := by simp [show 0 < us.length by simpa using Nat.lt_of_lt_of_eq Nat.zero_lt_one h1.symm]
        exact cut c _ hv (hval2 0 c _ rfl h0)
      | [], hret, hlen2, hval2, tup => exact tup [] hret.symm rfl (by simp at hlen2 ⊢; omega)
      | c1 :: c2 :: r, hret, hlen2, hval2, tup => exact tup _ hret.symm rfl (by simp at hlen2 ⊢; omega)
  obtain ⟨ms, m0, m1, m2⟩ := hs.marks
  have hl := leave_marks (P := P) (n := 0) (fn := fn) (E := ⟨β, A, w, get T, D0, none⟩) (N := fn.ntmps) (R := fun e w' => ∃ u β' A', e = .returned u ∧
    Since ⟨β, A, w, get T, D0, none⟩ β' A' w' (hputs (get T) ups) ∧ Core β' A' w' (hputs (get T) ups) ∧ VRep β' A' w' (hputs (get T) ups) v u) ms a' w' m0 m1 m2 hs.since hs.b main
  rcases he with rfl | rfl
  · exact hl
  · exact hl

/-- how a round ends: what yield gives back, and the loop's record -/
def roundEnd (e : Exit) (l : Lp) : Option (Av × Lp) := match e with
  | .normal => some (.d (.bool true), { l with s := .ready, j := none })
  | .ret => some (.d (.bool false), { l with s := .done, j := some .ret })
  | .exit id => some (.d (.bool false), { l with s := .done, j := some (.exit id) })
  | _ => none

def putArgs : List (Nat × Av) → List Nat → List Av → List (Nat × Av)
  | l, p :: ps, c :: cs => putArgs (put l p c) ps cs
  | l, _, _ => l

/-- what a round's end asks -/
def RoundEnds (lid : Nat) (T : List (Nat × Obj)) (D : Nat → Prop) (v : Av) (ups : List (Nat × Obj)) (e : Exit) (s : St) : Prop :=
  ∃ l l', get s.hp lid = some (.lp l) ∧ roundEnd e l = some (v, l') ∧ ∃ s', Wk D ⟨[], put s.hp lid (.lp l')⟩ s' ∧ ∀ i o, hputs (get T) ups i = some o → get s'.hp i = some o

theorem putArgs_ok : ∀ (ps : List Nat) (cs : List Av) (us : List Value) (l : List (Nat × Av)) (tmps : Array Value), ps.length = cs.length → cs.length = us.length → (∀ p ∈ ps, p < tmps.size) →
    (∀ t v, get l t = some v → ∃ u, tmps[t]? = some u ∧ VRep β A w H v u) → (∀ (i : Nat) c v, cs[i]? = some c → us[i]? = some v → VRep β A w H c v) →
    ((ps.zip us).foldl (fun (tmps : Array Value) x => tmps.setIfInBounds x.1 x.2) tmps).size = tmps.size ∧
      ∀ t v, get (putArgs l ps cs) t = some v → ∃ u, ((ps.zip us).foldl (fun (tmps : Array Value) x => tmps.setIfInBounds x.1 x.2) tmps)[t]? = some u ∧ VRep β A w H v u
  | [], [], us, l, tmps, _, _, _, hl, _ => ⟨rfl, hl⟩
  | p :: ps, c :: cs, u :: us, l, tmps, h1, h2, hb, hl, hv => by
    simp only [List.zip_cons_cons, List.foldl_cons, putArgs]
    obtain ⟨g1, g2⟩ := putArgs_ok ps cs us (put l p c) (tmps.setIfInBounds p u) (by simpa using h1) (by simpa using h2) (fun q hq => by simpa using hb q (List.mem_cons_of_mem _ hq)) (by
      intro t v ht
      rw [get_put] at ht
      split at ht
      · rename_i e
        subst e
        cases ht
        exact ⟨u, by simp [hb _ List.mem_cons_self], hv 0 _ _ rfl rfl⟩
      · rename_i e
        obtain ⟨u', q1, q2⟩ := hl t v ht
        exact ⟨u', by rw [Array.getElem?_setIfInBounds, if_neg (fun h => e h.symm)]; exact q1, q2⟩) (fun i c v q1 q2 => hv (i + 1) c v (by simpa using q1) (by simpa using q2))
    exact ⟨by rw [g1]; simp, g2⟩
  | [], _ :: _, _, _, _, h, _, _, _, _ => by simp at h
  | _ :: _, [], _, _, _, h, _, _, _, _ => by simp at h
  | _ :: _, _ :: _, [], _, _, _, h, _, _, _ => by simp at h

/-- the contract of a round, from the loop's code -/
theorem RCon.of_code {lid : Nat} {l : Lp} {asg body : Ic} {args : List Av} {T : List (Nat × Obj)} {v : Av} {ups : List (Nat × Obj)} (hl : get T lid = some (.lp l)) (hrd : l.s = .ready) (h1 : trCode P l.N l.asg = some (strip asg))
    (h2 : trCode P l.N l.body = some (strip body)) (hps : args.length = l.ps.size) (hpb : ∀ p ∈ l.ps.toList, p < l.N) (hcl : closed (hputs (get T) ups))
    (hw : wpc P (fun i => (get T i).isSome = true) asg (fun e s => e = .normal ∧ ∃ l', get s.hp lid = some (.lp l') ∧ l'.s = .ready ∧
      wpc P (fun i => (get T i).isSome = true) body (RoundEnds lid T (fun i => (get T i).isSome = true) v ups) ⟨s.tm, put s.hp lid (.lp { l' with s := .busy })⟩) ⟨putArgs l.tm l.ps.toList args, T⟩) : RCon P lid args T v ups := by
  intro β A w l0 vs hc hβ hvs
  obtain ⟨b, r, e1, e2, e3, e4, e6, e7, e8, e9, e10⟩ := hc.objs lid _ hl
  rw [hβ] at e1
  cases e1
  have hsz : vs.size = r.params.size := by rw [e6, ← hps]; exact hvs.1.symm
  refine ⟨r.fn, _, r.assign, r.body, run_yield e2 hsz, roundIn_of_wpIn trivial ?_⟩
  generalize hD : (fun i => (get T i).isSome = true) = D at hw
  let E : Ent := ⟨β, A, w, get T, D, some l0⟩
  have hfold : (r.params.zip vs).foldl (fun (tmps : Array Value) (x : Nat × Value) => tmps.setIfInBounds x.1 x.2) r.tmps = (l.ps.toList.zip vs.toList).foldl (fun (tmps : Array Value) x => tmps.setIfInBounds x.1 x.2) r.tmps := by
    rw [← Array.foldl_toList, Array.toList_zip, e6]
  have hpa := putArgs_ok (β := β) (A := A) (w := w) (H := get T) l.ps.toList args vs.toList l.tm r.tmps (by simpa using hps.symm) (by simpa using hvs.1) (fun p hp => by rw [e9]; exact hpb p hp) e10 (fun i c u q1 q2 => hvs.2 i c u q1 (by simpa using q2))
  have hy0 : VRep β A w (get T) (.mp lid) (.func (.yield l0) #[] #[]) := .mp _ _ rfl (by rw [hl]; rfl) (by rw [hl]; intro _ h; cases h) (fun _ _ => ⟨l0, hβ, rfl⟩) (by rw [hl]; intro _ _ h; cases h)
  have hDl : D lid := by rw [← hD]; show (get T lid).isSome = true; rw [hl]; rfl
  have hlid : ∀ {β' : Blocks} {A' : Nat → Prop} {w' : World} {H' : Heap} {l2 : Lp}, Since E β' A' w' H' → H' lid = some (.lp l2) → β' lid = some l0 := by
    intro β' A' w' H' l2 hs hl2
    cases hs.vals (.mp lid) _ hDl hy0 with
    | mp _ _ _ _ _ g2 _ =>
      obtain ⟨b, q1, q2⟩ := g2 _ hl2
      cases q2
      exact q1
  have hsat : Sat E l.N ⟨putArgs l.tm l.ps.toList args, T⟩ { tmps := (r.params.zip vs).foldl (fun tmps (t, a) => tmps.setIfInBounds t a) r.tmps, defers := [] } w β A := by
    refine ⟨hc, ?_, ?_, ⟨rfl, rfl, rfl, Nat.le_refl _, fun _ _ _ => rfl, fun _ r h => ⟨r, h⟩, fun _ h => .inl h, fun i o b h1 h2 h3 => .inr ⟨i, o, h1, h2, h3⟩, fun _ _ _ h => h⟩, ⟨[], by simp, rfl, by simp⟩, ?_⟩
    · intro t c ht
      show ∃ u, ((r.params.zip vs).foldl (fun (tmps : Array Value) (x : Nat × Value) => tmps.setIfInBounds x.1 x.2) r.tmps)[t]? = some u ∧ _
      rw [hfold]
      exact hpa.2 t c ht
    · show ((r.params.zip vs).foldl (fun (tmps : Array Value) (x : Nat × Value) => tmps.setIfInBounds x.1 x.2) r.tmps).size = _
      rw [hfold, hpa.1, e9]
    · intro l' hl'
      cases hl'
      exact ⟨r, e2⟩
  refine wpIn_mono (code_ok (E := E) (n := 0) asg r.assign _ _ _ w β A (by rw [e7]; exact h1) hw hsat) ?_
  rintro e a1 w1 ⟨s, β1, A1, ⟨rfl, l', g1, g2, g5⟩, hs1⟩
  obtain ⟨b, r1, q1, q2, q3, q4, q6, q7, q8, q9, q10⟩ := hs1.core.objs lid _ g1
  have hb1 := hlid hs1.since g1
  rw [hb1] at q1
  cases q1
  have hlt1 : l0 < w1.heap.size := (Array.getElem?_eq_some_iff.1 q2).1
  refine ⟨w1.putObj l0 (.loop { r1 with state := .busy }), run_beginRound q2 (by rw [q3, g2]), ?_⟩
  have hst1 := Stp.lpSet (r := { r1 with state := .busy }) (l' := { l' with s := .busy }) hs1.core g1 hb1 hlt1 ⟨rfl, q4, q6, q7, q8, q9⟩ q10
  have hput : ∀ (l2 : Lp) (hp : List (Nat × Obj)), upd (get hp) lid (some (.lp l2)) = get (put hp lid (.lp l2)) := fun l2 hp => funext fun j => by rw [get_put]; rfl
  rw [hput] at hst1
  have hs2 : Sat E l.N ⟨s.tm, put s.hp lid (.lp { l' with s := .busy })⟩ a1 (w1.putObj l0 (.loop { r1 with state := .busy })) β1 A1 :=
    hs1.step hst1 ⟨hst1.core, fun t v ht => by obtain ⟨u, p1, p2⟩ := hs1.tmps t v ht; exact ⟨u, p1, hst1.vals _ _ p2⟩, hs1.size⟩ rfl
  refine wpIn_mono (code_ok (E := E) (n := 0) body r.body _ _ _ _ β1 A1 (by rw [e8]; exact h2) g5 hs2) ?_
  rintro e a2 w2 ⟨s2, β2, A2, ⟨l2, l3, k1, k2, s3, hwk, hsame⟩, hs3⟩
  obtain ⟨b, r2, p1, p2, p3, p4, p6, p7, p8, p9, p10⟩ := hs3.core.objs lid _ k1
  have hb2 := hlid hs3.since k1
  rw [hb2] at p1
  cases p1
  have hlt2 : l0 < w2.heap.size := (Array.getElem?_eq_some_iff.1 p2).1
  have fin : ∀ (jump : Option Code) , v = .d (.bool jump.isNone) → l3 = { l2 with s := if jump.isNone then .ready else .done, j := jump } →
      ∃ v' w', (Instr.endRound l0 jump).run P w2 = .ok v' w' ∧ ∃ u, Ending.returned v' = .returned u ∧ ∃ β' A', Since ⟨β, A, w, get T, D, some l0⟩ β' A' w' (hputs (get T) ups) ∧ Core β' A' w' (hputs (get T) ups) ∧ VRep β' A' w' (hputs (get T) ups) v u := by
    intro jump hv hl3
    subst hl3
    refine ⟨_, _, run_endRound jump p2, _, rfl, ?_⟩
    have hst2 := Stp.lpSet (r := { r2 with state := if jump.isNone then .ready else .done, pending := jump }) (l' := { l2 with s := if jump.isNone then .ready else .done, j := jump }) hs3.core k1 hb2 hlt2 ⟨rfl, rfl, p6, p7, p8, p9⟩ p10
    rw [hput] at hst2
    have hs4 : Sat E l.N ⟨[], put s2.hp lid (.lp { l2 with s := if jump.isNone then .ready else .done, j := jump })⟩ a2 (w2.putObj l0 (.loop { r2 with state := if jump.isNone then .ready else .done, pending := jump })) β2 A2 :=
      hs3.step (st' := ⟨[], _⟩) hst2 ⟨hst2.core, (fun t v ht => by cases ht), hs3.size⟩ rfl
    obtain ⟨β3, A3, hs5⟩ := hs4.wk hwk
    obtain ⟨c1, c2, _⟩ := cut_ok hs5.since hs5.core hsame hcl (fun i hi => hputs_some ups _ i hi)
    exact ⟨β3, A3, c1, c2, by rw [hv]; exact .d _ _ (.bool _)⟩
  cases e with
  | normal => simp only [roundEnd, Option.some.injEq, Prod.mk.injEq] at k2; exact fin none k2.1.symm k2.2.symm
  | ret => simp only [roundEnd, Option.some.injEq, Prod.mk.injEq] at k2; exact fin (some .ret) k2.1.symm k2.2.symm
  | exit id => simp only [roundEnd, Option.some.injEq, Prod.mk.injEq] at k2; exact fin (some (.exit id)) k2.1.symm k2.2.symm
  | _ => simp [roundEnd] at k2
end
end Av
/- What a function's intermediate form is, bundled. -/
namespace Av
open Go
variable [Glb] [Rls]

/-- the function has this intermediate form -/
structure FnOk (P : Program) (f N : Nat) (ic : Ic) (ris : List RI) : Prop where
  ex : ∃ fn code, P.funcs[f]? = some fn ∧ fn.body = some code ∧ (fn.name == "runtime.NumGoroutine") = false ∧ fn.ntmps = N ∧ trCode P N code = some (strip ic) ∧ allSome (fn.results.toList.map (trRes P)) = some ris

theorem FnOk.of {P : Program} {f N : Nat} {ic : Ic} {ris : List RI} {fn : Func} (hf : P.funcs[f]? = some fn) (hname : (fn.name == "runtime.NumGoroutine") = false) (hn : fn.ntmps = N)
    (htr : (fn.body.bind (trCode P N)) = some (strip ic)) (hres : allSome (fn.results.toList.map (trRes P)) = some ris) : FnOk P f N ic ris := by
  cases hb : fn.body with
  | none => rw [hb] at htr; cases htr
  | some code => rw [hb] at htr; exact ⟨fn, code, hf, hb, hname, hn, htr, hres⟩

/-- a part of code -/
def subC : Code → List Nat → Code
  | c, [] => c
  | .seq a _, 0 :: r => subC a r
  | .seq _ b, _ :: r => subC b r
  | .cond _ a _, 0 :: r => subC a r
  | .cond _ _ b, _ :: r => subC b r
  | .block _ b, _ :: r => subC b r
  | .scope b, _ :: r => subC b r
  | .loop b, _ :: r => subC b r
  | .rangeFunc _ _ a _, 0 :: r => subC a r
  | .rangeFunc _ _ _ b, _ :: r => subC b r
  | c, _ => c
def codeOf (fn : Func) : Code := fn.body.getD .skip

/-- a contract without objects -/
abbrev PCon (P : Program) (f : Nat) (args : List Dat) (v : Av) : Prop := Con P f (args.map .d) [] v []

theorem FnOk.con {k : Bool} {P : Program} {f N : Nat} {ic : Ic} {ris : List RI} (h : FnOk P f N ic ris) {args : List Av} {T : List (Nat × Obj)} {v : Av} {ups : List (Nat × Obj)} (hn : args.length ≤ N)
    (hcl : closed (hputs (get T) ups)) (hv : inT (hputs (get T) ups) v) (hw : wpc P D0 ic (EndsK k ris T v ups) ⟨enum 0 args, T⟩) : Con P f args T v ups := by
  obtain ⟨fn, code, h1, h2, h3, h4, h5, h6⟩ := h.ex
  subst h4
  exact Con.of_code h1 h2 h3 h5 h6 hn hcl hv hw

/-- a contract without objects, from the code -/
theorem FnOk.pcon {P : Program} {f N : Nat} {ic : Ic} {ris : List RI} (h : FnOk P f N ic ris) {args : List Dat} {v : Av} (hn : args.length ≤ N) (hv : inTR (get []) v)
    (hw : wpc P D0 ic (Ends ris [] v []) ⟨enum 0 (args.map .d), []⟩) : PCon P f args v :=
  h.con (by simpa using hn) (by intro i o h; cases h) hv hw

/-- data and tuples of data -/
def pureR : Av → Prop
  | .d _ => True
  | .tup cs => ∀ c ∈ cs, ∃ x, c = .d x
  | _ => False

theorem PCon.call {P : Program} {f : Nat} {args : List Dat} {v : Av} (h : PCon P f args v) (hv : pureR v) : CallOK P f (args.map .d) [] v [] := by
  have hin : inT (get []) v := by
    cases v with
    | d x => trivial
    | tup cs =>
      show idsInL _ cs
      have hv' : ∀ c ∈ cs, ∃ x, c = .d x := hv
      clear hv h
      induction cs with
      | nil => trivial
      | cons c r ih =>
        obtain ⟨x, rfl⟩ := hv' c List.mem_cons_self
        exact ⟨trivial, ih fun c hc => hv' c (List.mem_cons_of_mem _ hc)⟩
    | _ => exact hv.elim
  have := Con.call h id (by intro i h; cases h) (by intro i j h; cases h) (by intro c hc; obtain ⟨x, _, rfl⟩ := List.mem_map.1 hc; trivial) (by intro i o h; cases h) [] (by simp) (by intro i o h; cases h) hin
  have e1 : (args.map Av.d).map (Av.ren id) = args.map .d := by simp [Av.ren]
  rw [e1, Av.ren_id] at this
  exact this

theorem VRep.canon {β : Blocks} {A : Nat → Prop} {w : World} {H : Heap} {x : Dat} {u : Value} (h : VRep β A w H (.d x) u) : VRep β A w H (.d x.canon) u := .d _ _ h.of_d.canon

def Av.canon : Av → Av
  | .d x => .d x.canon
  | v => v

theorem VRep.canonA {β : Blocks} {A : Nat → Prop} {w : World} {H : Heap} {c : Av} {u : Value} (h : VRep β A w H c u) : VRep β A w H c.canon u := by
  cases c with
  | d x => exact VRep.canon h
  | _ => exact h

/-- a call may see nil slices as empty ones -/
theorem CallOK.canon {P : Program} {f : Cee} {args : List Av} {T : List (Nat × Option Obj)} {v : Av} {ups : List (Nat × Obj)} (h : CallOK P f (args.map Av.canon) T v ups) : CallOK P f args T v ups := by
  refine fun β A w H vs hT hc hvs => h β A w H vs hT hc ⟨by simpa using hvs.1, ?_⟩
  intro i c u hi hu
  rw [List.getElem?_map] at hi
  cases e : args[i]? with
  | none => simp [e] at hi
  | some c0 => simp only [e, Option.map_some, Option.some.injEq] at hi; subst hi; exact (hvs.2 i c0 u e hu).canonA

end Av
namespace Av
open Go
variable [Glb] [Rls]
section
variable {P : Program} {D : Nat → Prop} {Q : Exit → St → Prop} {st : St}
@[congr] theorem wpc_congr {b : Ic} {st' : St} (h : st = st') : wpc P D b Q st = wpc P D b Q st' := by rw [h]
@[congr] theorem wps_congr {s : Ss} {K : St → Prop} {st' : St} (h : st = st') : wps P s K st = wps P s K st' := by rw [h]
theorem wps_nil (K : St → Prop) : wps P .nil K st = K st := rfl
theorem wps_op (d : Option Nat) (o : IOp) (r : Ss) (K : St → Prop) : wps P (.op d o r) K st = match step (get st.tm) (get st.hp) (d.getD 0) o with
    | some x => x.c ∧ wps P r K (st.app d x.v x.ups)
    | none => False := rfl
/-- && and ||: the second operand is asked for, or it is not -/
def scQ (P : Program) (x b : Bool) (body : Ss) (y : Opd) (d : Nat) (r : Ss) (K : St → Prop) (st : St) : Prop :=
  ∃ (yv : Bool) (hp : List (Nat × Obj)), (x = b → wps P body (fun st' => val (get st'.tm) y = some (.d (.bool yv)) ∧ st'.hp = hp) st) ∧ (x ≠ b → hp = st.hp) ∧
        wps P r K ⟨put (drops st.tm body.dsts) d (.d (.bool (if b then x && yv else x || yv))), hp⟩
theorem wps_sc (c : Nat) (b : Bool) (body : Ss) (y : Opd) (d : Nat) (r : Ss) (K : St → Prop) : wps P (.sc c b body y d r) K st = match get st.tm c with
    | some (.d (.bool x)) => scQ P x b body y d r K st
    | _ => False := rfl
theorem wps_ex : ∀ (s : Ss) (K : St → Prop) (st : St), wps P s K st → ∃ st', K st' ∧ wps P s (fun s => s = st') st
  | .nil, K, st, h => ⟨st, h, rfl⟩
  | .op d o r, K, st, h => by
    simp only [wps] at h ⊢
    split at h
    · obtain ⟨st', h1, h2⟩ := wps_ex r K _ h.2
      exact ⟨st', h1, h.1, h2⟩
    · exact h.elim
  | .call d f args r, K, st, h => by
    simp only [wps] at h ⊢
    split at h
    · obtain ⟨T, v, ups, hp, h1, h2, h3, h4⟩ := h
      obtain ⟨st', g1, g2⟩ := wps_ex r K _ h4
      exact ⟨st', g1, T, v, ups, hp, h1, h2, h3, g2⟩
    · exact h.elim
  | .sc c b body y d r, K, st, h => by
    simp only [wps] at h ⊢
    split at h
    · obtain ⟨yv, hp, h1, h2, h3⟩ := h
      obtain ⟨st', g1, g2⟩ := wps_ex r K _ h3
      exact ⟨st', g1, yv, hp, h1, h2, g2⟩
    · exact h.elim
theorem wps_imp {K K' : St → Prop} (hK : ∀ s, K s → K' s) (s : Ss) (st : St) (h : wps P s K st) : wps P s K' st := by
  obtain ⟨st', h1, h2⟩ := wps_ex s K st h
  have main : ∀ (s : Ss) (st : St), wps P s (fun s => s = st') st → wps P s K' st := by
    intro s
    induction s with
    | nil => intro st h; have h : st = st' := h; subst h; exact hK _ h1
    | op d o r ih =>
      intro st h
      simp only [wps] at h ⊢
      split at h
      · exact ⟨h.1, ih _ h.2⟩
      · exact h.elim
    | call d f args r ih =>
      intro st h
      simp only [wps] at h ⊢
      split at h
      · obtain ⟨T, v, ups, hp, h1, h2, h3, h4⟩ := h; exact ⟨T, v, ups, hp, h1, h2, h3, ih _ h4⟩
      · exact h.elim
    | sc c b body y d r ihb ihr =>
      intro st h
      simp only [wps] at h ⊢
      split at h
      · obtain ⟨yv, hp, h1, h2, h3⟩ := h; exact ⟨yv, hp, h1, h2, ihr _ h3⟩
      · exact h.elim
  exact main s st h2
/-- nothing is written for the second operand -/
theorem scQ_pure {x b : Bool} {body : Ss} {y : Opd} {d : Nat} {r : Ss} {K : St → Prop} (yv : Bool) (h1 : x = b → wps P body (fun st' => val (get st'.tm) y = some (.d (.bool yv)) ∧ st'.hp = st.hp) st)
    (h2 : wps P r K ⟨put (drops st.tm body.dsts) d (.d (.bool (if b then x && yv else x || yv))), st.hp⟩) : scQ P x b body y d r K st := ⟨yv, st.hp, h1, fun _ => rfl, h2⟩
theorem scQ_skip (b : Bool) (body : Ss) (y : Opd) (d : Nat) (r : Ss) (K : St → Prop) : scQ P (!b) b body y d r K st = wps P r K ⟨put (drops st.tm body.dsts) d (.d (.bool (!b))), st.hp⟩ := by
  refine propext ⟨?_, fun h => ⟨false, st.hp, (by cases b <;> simp), fun _ => rfl, by cases b <;> exact h⟩⟩
  rintro ⟨yv, hp, _, h2, h3⟩
  rw [h2 (by cases b <;> simp)] at h3
  cases b <;> exact h3
theorem scQ_ft (body : Ss) (y : Opd) (d : Nat) (r : Ss) (K : St → Prop) : scQ P false true body y d r K st = wps P r K ⟨put (drops st.tm body.dsts) d (.d (.bool false)), st.hp⟩ := scQ_skip true body y d r K
theorem scQ_tf (body : Ss) (y : Opd) (d : Nat) (r : Ss) (K : St → Prop) : scQ P true false body y d r K st = wps P r K ⟨put (drops st.tm body.dsts) d (.d (.bool true)), st.hp⟩ := scQ_skip false body y d r K
/-- the second operand is the result -/
def scR (P : Program) (y : Opd) (ds : List Nat) (d : Nat) (r : Ss) (K : St → Prop) (tm : List (Nat × Av)) (st' : St) : Prop := match val (get st'.tm) y with
  | some (.d (.bool yv)) => wps P r K ⟨put (drops tm ds) d (.d (.bool yv)), st'.hp⟩
  | _ => False
theorem scQ_run (b : Bool) (body : Ss) (y : Opd) (d : Nat) (r : Ss) (K : St → Prop) : scQ P b b body y d r K st = wps P body (scR P y body.dsts d r K st.tm) st := by
  refine propext ⟨?_, fun h => ?_⟩
  · rintro ⟨yv, hp, h1, _, h3⟩
    refine wps_imp ?_ body st (h1 rfl)
    rintro st' ⟨g1, rfl⟩
    unfold scR
    rw [g1]
    cases b <;> simpa using h3
  · obtain ⟨st', g1, g2⟩ := wps_ex body _ st h
    unfold scR at g1
    split at g1
    · rename_i yv hy
      refine ⟨yv, st'.hp, fun _ => wps_imp (by rintro s rfl; exact ⟨hy, rfl⟩) body st g2, fun h => absurd rfl h, ?_⟩
      cases b <;> simpa using g1
    · exact g1.elim
theorem scQ_tt (body : Ss) (y : Opd) (d : Nat) (r : Ss) (K : St → Prop) : scQ P true true body y d r K st = wps P body (scR P y body.dsts d r K st.tm) st := scQ_run true body y d r K
theorem scQ_ff (body : Ss) (y : Opd) (d : Nat) (r : Ss) (K : St → Prop) : scQ P false false body y d r K st = wps P body (scR P y body.dsts d r K st.tm) st := scQ_run false body y d r K
@[congr] theorem scQ_congr {x x' b : Bool} {body : Ss} {y : Opd} {d : Nat} {r : Ss} {K : St → Prop} {st' : St} (hx : x = x') (h : st = st') : scQ P x b body y d r K st = scQ P x' b body y d r K st' := by rw [hx, h]
@[congr] theorem wpsL_congr {s : Ss} {K : St → Log → Prop} {st' : St} {lg lg' : Log} (h : st = st') (h2 : lg = lg') : wpsL P s K st lg = wpsL P s K st' lg' := by rw [h, h2]
theorem wpsL_nil (K : St → Log → Prop) (lg : Log) : wpsL P .nil K st lg = K st lg := rfl
theorem wpsL_op (d : Option Nat) (o : IOp) (r : Ss) (K : St → Log → Prop) (lg : Log) : wpsL P (.op d o r) K st lg = match step (get st.tm) (get st.hp) (d.getD 0) o with
    | some x => x.c ∧ wpsL P r K (st.app d x.v x.ups) (lg ++ [(rd (get st.tm) (d.getD 0) o, x.ups.map (·.1))])
    | none => False := rfl
theorem wpsL_sc (c : Nat) (b : Bool) (body : Ss) (y : Opd) (d : Nat) (r : Ss) (K : St → Log → Prop) (lg : Log) : wpsL P (.sc c b body y d r) K st lg = match get st.tm c with
    | some (.d (.bool x)) => ∃ (yv : Bool) (hp : List (Nat × Obj)) (l : Log), l.length = body.len ∧ (x = b → wpsL P body (fun st' l' => val (get st'.tm) y = some (.d (.bool yv)) ∧ st'.hp = hp ∧ l' = l) st []) ∧
        (x ≠ b → hp = st.hp) ∧ wpsL P r K ⟨put (drops st.tm body.dsts) d (.d (.bool (if b then x && yv else x || yv))), hp⟩ (lg ++ (l ++ [([], [])]))
    | _ => False := rfl
theorem wpsL_call {d : Option Nat} {f : Cal} {args : List Opd} {r : Ss} {K : St → Log → Prop} {lg : Log} {f' : Cee} {vs : List Av} {T : List (Nat × Option Obj)} {v : Av} {ups : List (Nat × Obj)} (ht : target (get st.tm) f args = some (f', vs))
    (hc : CallOK P f' vs T v ups) (hT : tgets (get st.hp) T) (hr : wpsL P r K (st.app d v ups) (lg ++ [(T.map (·.1), ups.map (·.1))])) : wpsL P (.call d f args r) K st lg := by
  simp only [wpsL, ht]
  exact ⟨T, v, ups, puts st.hp ups, hc, hT, fun i => by rw [get_puts], hr⟩
theorem wpsL_pcall {d : Option Nat} {f : Cal} {args : List Opd} {r : Ss} {K : St → Log → Prop} {lg : Log} {f' : Cee} {vs : List Av} {v : Av} (ht : target (get st.tm) f args = some (f', vs))
    (hc : CallOK P f' (vs.map Av.canon) [] v []) (hr : wpsL P r K (st.app d v []) (lg ++ [([], [])])) : wpsL P (.call d f args r) K st lg := wpsL_call ht hc.canon trivial hr
/-- a call: to whom, and its contract -/
theorem wps_call {d : Option Nat} {f : Cal} {args : List Opd} {r : Ss} {K : St → Prop} {f' : Cee} {vs : List Av} {T : List (Nat × Option Obj)} {v : Av} {ups : List (Nat × Obj)} (ht : target (get st.tm) f args = some (f', vs))
    (hc : CallOK P f' vs T v ups) (hT : tgets (get st.hp) T) (hr : wps P r K (st.app d v ups)) : wps P (.call d f args r) K st := by
  simp only [wps, ht]
  exact ⟨T, v, ups, puts st.hp ups, hc, hT, fun i => by rw [get_puts], hr⟩
/-- a call of a pure function -/
theorem wps_pcall {d : Option Nat} {f : Cal} {args : List Opd} {r : Ss} {K : St → Prop} {f' : Cee} {vs : List Av} {v : Av} (ht : target (get st.tm) f args = some (f', vs))
    (hc : CallOK P f' (vs.map Av.canon) [] v []) (hr : wps P r K (st.app d v [])) : wps P (.call d f args r) K st := wps_call ht hc.canon trivial hr
theorem wpc_skip : wpc P D .skip Q st = Q .normal st := rfl
theorem wpc_reg (s : Ss) : wpc P D (.reg s) Q st = wps P s (Q .normal) st := rfl
theorem wpc_regd (un : List (Nat × Nat)) (s : Ss) : wpc P D (.regd un s) Q st = wpsL P s (fun st lg => apartAll lg un = true ∧ Q .normal st) st [] := rfl
/-- continuations by name: nothing stands twice -/
def dnK (ts : List Nat) (Q : Exit → St → Prop) (e : Exit) (s : St) : Prop := match e with
  | .normal => Q .normal ⟨drops s.tm ts, s.hp⟩
  | e => Q e s
def seqK (P : Program) (D : Nat → Prop) (b : Ic) (Q : Exit → St → Prop) (e : Exit) (s : St) : Prop := match e with
  | .normal => wpc P D b Q s
  | e => Q e s
def blockK (id : Nat) (Q : Exit → St → Prop) (e : Exit) (s : St) : Prop := match e with
  | .exit id' => if id' = id then Q .normal s else Q (.exit id') s
  | e => Q e s
def loopK (D : Nat → Prop) (I : Nat → St → Prop) (n : Nat) (Q : Exit → St → Prop) (e : Exit) (s' : St) : Prop := match e with
  | .normal => ∃ m s'', m < n ∧ Wk D s' s'' ∧ I m s''
  | e => Q e s'
theorem dnK_normal (ts : List Nat) : dnK ts Q .normal st = Q .normal ⟨drops st.tm ts, st.hp⟩ := rfl
theorem dnK_ret (ts : List Nat) : dnK ts Q .ret st = Q .ret st := rfl
theorem dnK_exit (ts : List Nat) (id : Nat) : dnK ts Q (.exit id) st = Q (.exit id) st := rfl
theorem seqK_normal (b : Ic) : seqK P D b Q .normal st = wpc P D b Q st := rfl
theorem seqK_ret (b : Ic) : seqK P D b Q .ret st = Q .ret st := rfl
theorem seqK_exit (b : Ic) (id : Nat) : seqK P D b Q (.exit id) st = Q (.exit id) st := rfl
theorem blockK_normal (id : Nat) : blockK id Q .normal st = Q .normal st := rfl
theorem blockK_ret (id : Nat) : blockK id Q .ret st = Q .ret st := rfl
theorem blockK_exit (id id' : Nat) : blockK id Q (.exit id') st = if id' = id then Q .normal st else Q (.exit id') st := rfl
theorem loopK_normal (I : Nat → St → Prop) (n : Nat) : loopK D I n Q .normal st = ∃ m s'', m < n ∧ Wk D st s'' ∧ I m s'' := rfl
theorem loopK_ret (I : Nat → St → Prop) (n : Nat) : loopK D I n Q .ret st = Q .ret st := rfl
theorem loopK_exit (I : Nat → St → Prop) (n id : Nat) : loopK D I n Q (.exit id) st = Q (.exit id) st := rfl
theorem wpc_dn (a : Ic) (ts : List Nat) : wpc P D (.dn a ts) Q st = wpc P D a (dnK ts Q) st := rfl
theorem wpc_seq (a b : Ic) : wpc P D (.seq a b) Q st = wpc P D a (seqK P D b Q) st := rfl
/-- a choice -/
def iteK (x : Bool) (A B : Prop) : Prop := (x = true → A) ∧ (x = false → B)
theorem iteK_true (A B : Prop) : iteK true A B = A := propext ⟨fun h => h.1 rfl, fun h => ⟨fun _ => h, fun e => by cases e⟩⟩
theorem iteK_false (A B : Prop) : iteK false A B = B := propext ⟨fun h => h.2 rfl, fun h => ⟨fun e => (by cases e), fun _ => h⟩⟩
@[congr] theorem iteK_congr {x y : Bool} {A B : Prop} (h : x = y) : iteK x A B = iteK y A B := by rw [h]
theorem wpc_ite (c : Opd) (a b : Ic) : wpc P D (.ite c a b) Q st = match val (get st.tm) c with
    | some (.d (.bool x)) => iteK x (wpc P D a Q st) (wpc P D b Q st)
    | _ => False := rfl
theorem wpc_block (id : Nat) (b : Ic) : wpc P D (.block id b) Q st = wpc P D b (blockK id Q) st := rfl
def scpK (Q : Exit → St → Prop) (e : Exit) (s : St) : Prop := match e with
  | .goto _ => False
  | e => Q e s
theorem scpK_normal : scpK Q .normal st = Q .normal st := rfl
theorem scpK_ret : scpK Q .ret st = Q .ret st := rfl
theorem scpK_exit (id : Nat) : scpK Q (.exit id) st = Q (.exit id) st := rfl
theorem wpc_scp (b : Ic) : wpc P D (.scp b) Q st = wpc P D b (scpK Q) st := rfl
theorem wpc_lab : wpc P D .lab Q st = Q .normal st := rfl
attribute [go_sem] scpK_normal scpK_ret scpK_exit wpc_scp wpc_lab
theorem wpc_exit (id : Nat) : wpc P D (.exit id) Q st = Q (.exit id) st := rfl
theorem wpc_ret : wpc P D .ret Q st = Q .ret st := rfl
theorem wpc_loop {b : Ic} (I : Nat → St → Prop) (h0 : ∃ n s, Wk D st s ∧ I n s) (h : ∀ n s, I n s → wpc P D b (loopK D I n Q) s) : wpc P D (.loop b) Q st := ⟨I, h0, h⟩
end
theorem wrap64 {n : Int} (h1 : -9223372036854775808 ≤ n) (h2 : n ≤ 9223372036854775807) : IntKind.i64.wrap n = n := by
  simp only [IntKind.wrap, IntKind.signed, IntKind.bits]
  simp
  omega
theorem wrap64s (k : Nat) (h : k < 9223372036854775807) : IntKind.i64.wrap ((k : Int) + 1) = ((k + 1 : Nat) : Int) := by
  rw [wrap64 (by omega) (by omega)]
  omega
attribute [go_sem] iteK_true iteK_false dnK_normal dnK_ret dnK_exit seqK_normal seqK_ret seqK_exit blockK_normal blockK_ret blockK_exit loopK_normal loopK_ret loopK_exit wpc_skip wpc_reg wpc_regd wpc_dn wpc_seq wpc_ite wpc_block wpc_exit wpc_ret Ss.dsts Option.toList_some Option.toList_none beq_self_eq_true Av.ren Obj.ren renL renT Av.canon targetV roundEnd putArgs mine part1 parts1 D0 scQ_ft scQ_tf scQ_tt scQ_ff scR retV wps_nil wps_op wps_sc wpsL_nil wpsL_op wpsL_sc rd idsOf ids idsC Ss.len datum1 datum datums datumAll enum step get val Av.cells St.app put puts binOpD binStr binInt drops mkAgg allD target vals tgets splice isNil isNilI cellsEq cellEq listOf curr putEl ofBound Dat.cells outs finF finK fin1 fins sameT hputs upd Ends EndsK Dat.canon canonL
  List.map_cons List.map_nil Option.map_some Option.map_none Option.getD_some Option.getD_none if_true if_false true_and and_true List.getElem?_cons_zero List.getElem?_cons_succ List.contains_cons List.contains_nil
  Bool.or_false Bool.false_or Bool.false_eq_true Bool.or_true Bool.true_or Bool.or_self List.length_cons List.length_nil List.take_succ_cons List.take_zero List.drop_succ_cons List.drop_zero List.flatMap_cons List.flatMap_nil List.nil_append List.append_nil List.cons_append
  false_implies true_implies implies_true Option.isSome_none Nat.zero_add Nat.add_zero and_self or_true true_or or_false false_or List.getD_cons_zero List.getD_cons_succ
end Av
/- Forgetting: states that say less. -/
namespace Av
open Go
variable [Glb] [Rls]

section
variable {β : Blocks} {A : Nat → Prop} {w : World} {H G : Heap} {D : Nat → Prop}

theorem VRep.less (hle : ∀ i o, G i = some o → H i = some o) {c : Av} {u : Value} (h : VRep β A w H c u) (hid : idsIn G c) : VRep β A w G c u := by
  induction h with
  | d x u h => exact .d x u h
  | ref i off b p u hu h0 h1 h2 => exact .ref i off b p u hu hid (fun cs hcs => h1 cs (hle i _ hcs)) fun ds hds => h2 ds (hle i _ hds)
  | ms i ver u hu h0 h1 h2 => exact .ms i ver u hu hid (fun v' sz xs hr => h1 v' sz xs (hle i _ hr)) fun sz xs hr => h2 sz xs (hle i _ hr)
  | sub i ver off len u hu h0 h1 h2 => exact .sub i ver off len u hu hid (fun v' sz xs hr => h1 v' sz xs (hle i _ hr)) fun sz xs hr => h2 sz xs (hle i _ hr)
  | el i ver k off b p u hu h0 h1 => exact .el i ver k off b p u hu hid (fun v' sz xs hr => h1 v' sz xs (hle i _ hr))
  | agg cs arr hl h1 hv ih => exact .agg cs arr hl h1 fun i c v hc hv' => ih i c v hc hv' (idsInL_get (by simpa only [idsIn] using hid) i c hc)
  | tup cs arr hl hv ih => exact .tup cs arr hl fun i c v hc hv' => ih i c v hc hv' (idsInL_get (by simpa only [idsIn] using hid) i c hc)
  | clo f fs cs a1 a2 h1 h2 hf hv ihf ihv =>
    simp only [idsIn] at hid
    exact .clo f fs cs a1 a2 h1 h2 (fun i c v hc hv' => ihf i c v hc hv' (idsInL_get hid.1 i c hc)) fun i c v hc hv' => ihv i c v hc hv' (idsInL_get hid.2 i c hc)
  | mp i u hu h0 h1 h2 h3 => exact .mp i u hu hid (fun es hr => h1 es (hle i _ hr)) (fun l hr => h2 l (hle i _ hr)) fun s p hr => h3 s p (hle i _ hr)
  | any u => exact .any u
  | und => exact .und

def subL {α : Type} : List (Nat × α) → List (Nat × α) → Prop
  | [], _ => True
  | e :: r, l => get l e.1 = some e.2 ∧ subL r l

theorem subL_ok {α : Type} {l : List (Nat × α)} : ∀ {l' : List (Nat × α)}, subL l' l → ∀ t v, get l' t = some v → get l t = some v
  | [], _, t, v, h => by cases h
  | (k, x) :: r, hs, t, v, h => by
    simp only [get] at h
    split at h
    · rename_i e; subst e; cases h; exact hs.1
    · exact subL_ok hs.2 t v h

/-- every value of a state speaks of objects of the state -/
def closedT (G : Heap) : List (Nat × Av) → Prop
  | [] => True
  | e :: r => idsIn G e.2 ∧ closedT G r
def closedH (G : Heap) : List (Nat × Obj) → Prop
  | [] => True
  | e :: r => objIn G e.2 ∧ closedH G r
/-- some objects are there still -/
def bigIn (D : Nat → Prop) : List (Nat × Obj) → List (Nat × Obj) → Prop
  | [], _ => True
  | e :: r, l => (D e.1 → (get l e.1).isSome = true) ∧ bigIn D r l

theorem closedT_ok : ∀ {l : List (Nat × Av)}, closedT G l → ∀ t v, get l t = some v → idsIn G v
  | [], _, t, v, h => by cases h
  | (k, x) :: r, hs, t, v, h => by
    simp only [get] at h
    split at h
    · cases h; exact hs.1
    · exact closedT_ok hs.2 t v h

theorem closedH_ok : ∀ {l : List (Nat × Obj)}, closedH G l → ∀ i o, get l i = some o → objIn G o
  | [], _, t, v, h => by cases h
  | (k, x) :: r, hs, t, v, h => by
    simp only [get] at h
    split at h
    · cases h; exact hs.1
    · exact closedH_ok hs.2 t v h
theorem closed_of {l : List (Nat × Obj)} (h : closedH (get l) l) : closed (get l) := fun i o hi => closedH_ok h i o hi
theorem closed_puts {l ups : List (Nat × Obj)} (h : closedH (get (puts l ups)) (puts l ups)) : closed (hputs (get l) ups) := by rw [← get_puts]; exact closed_of h

theorem bigIn_ok {l' : List (Nat × Obj)} : ∀ {l : List (Nat × Obj)}, bigIn D l l' → ∀ i, D i → (get l i).isSome = true → (get l' i).isSome = true
  | [], _, i, _, h => by cases h
  | (k, x) :: r, hs, i, hi, h => by
    simp only [get] at h
    split at h
    · rename_i e; subst e; exact hs.1 hi
    · exact bigIn_ok hs.2 i hi h

theorem Wk.refl (st : St) : Wk D st st := fun β A _ _ hc ht => ⟨β, A, hc, ht, fun i o _ h1 h2 h3 => ⟨i, o, h1, h2, h3⟩, fun _ h => .inl h, fun _ _ _ h => h⟩

theorem Wk.trans {s1 s2 s3 : St} (h1 : Wk D s1 s2) (h2 : Wk D s2 s3) : Wk D s1 s3 := by
  intro β A w a hc ht
  obtain ⟨β1, A1, c1, t1, m1, d1, v1⟩ := h1 β A w a hc ht
  obtain ⟨β2, A2, c2, t2, m2, d2, v2⟩ := h2 β1 A1 w a c1 t1
  refine ⟨β2, A2, c2, t2, ?_, ?_, fun c u hb h => v2 c u hb (v1 c u hb h)⟩
  · intro i o b g1 g2 g3
    obtain ⟨i', o', q1, q2, q3⟩ := m2 i o b g1 g2 g3
    exact m1 i' o' b q1 q2 q3
  · intro b hb
    rcases d2 b hb with h | ⟨i, o, g1, g2, g3⟩
    · exact d1 b h
    · obtain ⟨i', o', q1, q2, q3⟩ := m1 i o b g1 g2 g3
      exact .inr ⟨i', o', q1, q2, q3⟩

/-- fewer temporaries, fewer objects -/
theorem Wk.less {st st' : St} (h : subL st'.tm st.tm ∧ subL st'.hp st.hp ∧ closedT (get st'.hp) st'.tm ∧ closedH (get st'.hp) st'.hp ∧ bigIn D st.hp st'.hp) : Wk D st st' := by
  obtain ⟨h1, h2, h3, h4, h5⟩ := h
  intro β A w a hc ht
  have hle := subL_ok h2
  refine ⟨β, A, ⟨?_, fun i j o o' b q1 l1 q2 l2 => hc.inj i j o o' b (hle i o q1) l1 (hle j o' q2) l2, fun i o b q1 => hc.sep i o b (hle i o q1), hc.old, hc.glob⟩, ?_, fun i o b q1 q2 q3 => ⟨i, o, hle i o q1, q2, q3⟩, fun _ h => .inl h, ?_⟩
  · intro i o hi
    have := hc.objs i o (hle i o hi)
    cases o with
    | box cs =>
      obtain ⟨b, C, T, e1, e2, e3, e4, e5⟩ := this
      exact ⟨b, C, T, e1, e2, e3, e4, fun j c v hj hv => (e5 j c v hj hv).less hle (idsInL_get (closedH_ok h4 i _ hi : idsInL _ cs) j c hj)⟩
    | row ver sz xs => exact this
    | mapo es => exact this
    | fbox ds => trivial
    | frz ver sz xs => trivial
    | gone => trivial
    | sit s p => exact this
    | lp l =>
      obtain ⟨b, r, e1, e2, e3, e4, e6, e7, e8, e9, e10⟩ := this
      refine ⟨b, r, e1, e2, e3, e4, e6, e7, e8, e9, fun t v htv => ?_⟩
      obtain ⟨u, q1, q2⟩ := e10 t v htv
      exact ⟨u, q1, q2.less hle (idsInT_get (closedH_ok h4 i _ hi : idsInT _ l.tm) t v htv)⟩
  · intro t v htv
    obtain ⟨u, q1, q2⟩ := ht t v (subL_ok h1 t v htv)
    exact ⟨u, q1, q2.less hle (closedT_ok h3 t v htv)⟩
  · intro c u hb hv
    refine hv.less hle ?_
    cases hv with
    | d _ _ _ => trivial
    | ref i _ _ _ _ _ h0 _ _ => exact bigIn_ok h5 i hb h0
    | ms i _ _ _ h0 _ _ => exact bigIn_ok h5 i hb h0
    | sub i _ _ _ _ _ h0 _ _ => exact bigIn_ok h5 i hb h0
    | el i _ _ _ _ _ _ _ h0 _ => exact bigIn_ok h5 i hb h0
    | mp i _ _ h0 _ _ _ => exact bigIn_ok h5 i hb h0
    | _ => exact hb.elim

theorem Wk.of_stp {st st' : St} (h : ∀ β A w a, Core β A w (get st.hp) → TRep β A w (get st.hp) (get st.tm) a → ∃ β' A', Stp β A w (get st.hp) β' A' w (get st'.hp) ∧ TRep β' A' w (get st'.hp) (get st'.tm) a) : Wk D st st' := by
  intro β A w a hc ht
  obtain ⟨β', A', hst, ht'⟩ := h β A w a hc ht
  refine ⟨β', A', hst.core, ht', ?_, ?_, fun c u _ hv => hst.vals c u hv⟩
  · intro i o b h1 h2 h3
    rcases hst.mine i o b h1 h2 h3 with h | h
    · have := hst.core.lt h1 h2 h3; omega
    · exact h
  · intro b hb
    rcases hst.data b hb with h | h | h
    · exact .inl h
    · have := hst.core.old b hb; omega
    · exact .inr h

theorem Stp.rowNil (hc : Core β A w H) {k sz : Nat} (hk : H k = none) (hsz : 0 < sz) : Stp β A w H (upd β k none) A w (upd H k (some (.row 0 sz []))) :=
  Stp.one hc k (.row 0 sz []) none rfl rfl rfl (Nat.le_refl _) (fun _ _ _ => rfl) (fun _ h => h) (fun _ h => .inl h) (fun b h => hc.old b h) (by simp) (fun c u hcase hvr => old_vals (.inl hk) c u hcase hvr)
    (fun _ => ⟨hsz, by simp, by simp, .inl ⟨upd_same _ _ _, rfl⟩⟩)

theorem VRep.rowNil {k sz : Nat} {u : Value} (hr : Rep A w (.nil sz) u) : VRep (upd β k none) A w (upd H k (some (.row 0 sz []))) (.ms k 0) u := by
  cases hr with
  | nil _ ad =>
    refine .ms _ _ _ rfl (by simp [upd]) ?_ (by simp [upd])
    intro v3 sz3 xs3 h3
    simp only [upd, if_true, Option.some.injEq, Obj.row.injEq] at h3
    obtain ⟨rfl, rfl, rfl⟩ := h3
    exact ⟨Nat.le_refl _, fun _ => .inl ⟨upd_same _ _ _, rfl, ad, rfl⟩⟩

/-- a nil slice in a temporary becomes a growing one -/
theorem Wk.nilT {st : St} (t k sz : Nat) (ht : get st.tm t = some (.d (.nil sz))) (hk : get st.hp k = none) (hsz : 0 < sz) : Wk D st ⟨put st.tm t (.ms k 0), put st.hp k (.row 0 sz [])⟩ := by
  refine Wk.of_stp ?_
  intro β A w a hc htr
  have hh : get (put st.hp k (.row 0 sz [])) = upd (get st.hp) k (some (.row 0 sz [])) := funext fun j => by rw [get_put]; rfl
  rw [hh]
  have hst := Stp.rowNil (β := β) hc hk hsz
  refine ⟨_, A, hst, ?_⟩
  intro t' v hv
  rw [get_put] at hv
  split at hv
  · rename_i e
    subst e
    cases hv
    obtain ⟨u, q1, q2⟩ := htr t' _ ht
    exact ⟨u, q1, VRep.rowNil q2.of_d⟩
  · obtain ⟨u, q1, q2⟩ := htr t' v hv
    exact ⟨u, q1, hst.vals _ _ q2⟩

/-- a nil slice in a box becomes a growing one -/
theorem Wk.nilB {st : St} (b j k sz : Nat) (cs : List Av) (hb : get st.hp b = some (.box cs)) (hj : cs[j]? = some (.d (.nil sz))) (hk : get st.hp k = none) (hsz : 0 < sz) :
    Wk D st ⟨st.tm, put (put st.hp k (.row 0 sz [])) b (.box (cs.set j (.ms k 0)))⟩ := by
  refine Wk.of_stp ?_
  intro β A w a hc htr
  have hne : b ≠ k := fun e => by subst e; rw [hk] at hb; cases hb
  have hst := Stp.rowNil (β := β) hc hk hsz
  have hb1 : upd (get st.hp) k (some (.row 0 sz [])) b = some (.box cs) := by rw [upd_ne _ _ hne]; exact hb
  obtain ⟨bb, C, T, e1, e2, e3, e4, e5⟩ := hst.core.objs b _ hb1
  have hset : w.setRow bb C = w := setRow_same e2
  have hst2 := Stp.boxSet (cs' := cs.set j (.ms k 0)) (C' := C) hst.core hb1 e1 e2 (by simpa using e3) e4 (fun hall i c v hc' hv' => by
    rw [List.getElem?_set] at hc'
    split at hc'
    · rename_i e
      subst e
      split at hc'
      · cases hc'
        obtain ⟨bb0, C0, T0, q1, q2, q3, q4, q5⟩ := hc.objs b _ hb
        have hbb : bb0 = bb := by
          rw [upd_ne _ _ hne] at e1
          rw [q1] at e1
          exact Option.some.inj e1
        subst hbb
        rw [e2] at q2
        cases q2
        have hr := (q5 j _ v hj hv').of_d
        exact hall _ _ (VRep.rowNil hr)
      · cases hc'
    · exact hall _ _ (e5 i c v hc' hv'))
  rw [hset] at hst2
  have hh : get (put (put st.hp k (.row 0 sz [])) b (.box (cs.set j (.ms k 0)))) = upd (upd (get st.hp) k (some (.row 0 sz []))) b (some (.box (cs.set j (.ms k 0)))) := funext fun i => by
    rw [get_put, get_put]
    rfl
  rw [hh]
  refine ⟨_, A, hst.trans hst2, ?_⟩
  intro t v hv
  obtain ⟨u, q1, q2⟩ := htr t v hv
  exact ⟨u, q1, (hst.trans hst2).vals _ _ q2⟩
end
attribute [go_sem] subL closedT closedH bigIn idsIn idsInL idsInT objIn Option.isSome_some
end Av
/- An evaluator of the intermediate form, for closed calls: conditions, forgetting, regions. -/
namespace Av
open Go
variable [Glb] [Rls]

/-! ### conditions, decided -/
def cond1 (H : Heap) : Av → Bool
  | .ms i ver => match H i with
    | some (.row v' _ _) => ver == v'
    | some (.frz v' _ _) => ver == v'
    | _ => true
  | .sub i ver _ _ => match H i with
    | some (.row v' _ _) => ver == v'
    | some (.frz v' _ _) => ver == v'
    | _ => true
  | _ => true
def conds (H : Heap) : List Av → Bool
  | [] => true
  | c :: r => cond1 H c && match datum1 H c with
    | some (_, _, u) => conds (hputs H u) r
    | none => true
def condA (H : Heap) : Av → Bool
  | .agg cs => conds H cs
  | v => cond1 H v
def condAll (H : Heap) : List Av → Bool
  | [] => true
  | c :: r => condA H c && match datum H c with
    | some (_, _, u) => condAll (hputs H u) r
    | none => true
def currB (H : Heap) : Av → Bool
  | .ms i ver => match H i with
    | some (.row v' _ _) => ver == v'
    | some (.frz v' _ _) => ver == v'
    | _ => false
  | .sub i ver _ _ => match H i with
    | some (.row v' _ _) => ver == v'
    | some (.frz v' _ _) => ver == v'
    | _ => false
  | _ => true

theorem cond1_ok {H : Heap} {v : Av} {p : Prop} {x : Dat} {u : List (Nat × Obj)} (h : datum1 H v = some (p, x, u)) (hc : cond1 H v = true) : p := by
  unfold datum1 at h
  unfold cond1 at hc
  repeat' split at h
  all_goals first
    | (cases h; done)
    | (cases h; trivial)
    | (cases h; simp_all)
theorem conds_ok : ∀ {cs : List Av} {H : Heap} {p : Prop} {xs : List Dat} {u : List (Nat × Obj)}, datums H cs = some (p, xs, u) → conds H cs = true → p
  | [], H, p, xs, u, h, _ => by simp only [datums, Option.some.injEq, Prod.mk.injEq] at h; rw [← h.1]; trivial
  | c :: r, H, p, xs, u, h, hc => by
    simp only [datums] at h
    simp only [conds, Bool.and_eq_true] at hc
    cases e1 : datum1 H c with
    | none => simp [e1] at h
    | some q =>
      obtain ⟨p1, x, u1⟩ := q
      simp only [e1] at h hc
      cases e2 : datums (hputs H u1) r with
      | none => simp [e2] at h
      | some q2 =>
        obtain ⟨p2, xs', u2⟩ := q2
        simp only [e2, Option.some.injEq, Prod.mk.injEq] at h
        rw [← h.1]
        exact ⟨cond1_ok e1 hc.1, conds_ok e2 hc.2⟩
theorem condA_ok {H : Heap} {v : Av} {p : Prop} {x : Dat} {u : List (Nat × Obj)} (h : datum H v = some (p, x, u)) (hc : condA H v = true) : p := by
  unfold datum at h
  split at h
  · rename_i cs
    cases e : datums H cs with
    | none => simp [e] at h
    | some q =>
      obtain ⟨p1, xs, u1⟩ := q
      simp only [e, Option.some.injEq, Prod.mk.injEq] at h
      rw [← h.1]
      exact conds_ok e hc
  · rename_i hne
    refine cond1_ok h ?_
    unfold condA at hc
    split at hc
    · exact absurd rfl (hne _)
    · exact hc
theorem condAll_ok : ∀ {cs : List Av} {H : Heap} {p : Prop} {xs : List Dat} {u : List (Nat × Obj)}, datumAll H cs = some (p, xs, u) → condAll H cs = true → p
  | [], H, p, xs, u, h, _ => by simp only [datumAll, Option.some.injEq, Prod.mk.injEq] at h; rw [← h.1]; trivial
  | c :: r, H, p, xs, u, h, hc => by
    simp only [datumAll] at h
    simp only [condAll, Bool.and_eq_true] at hc
    cases e1 : datum H c with
    | none => simp [e1] at h
    | some q =>
      obtain ⟨p1, x, u1⟩ := q
      simp only [e1] at h hc
      cases e2 : datumAll (hputs H u1) r with
      | none => simp [e2] at h
      | some q2 =>
        obtain ⟨p2, xs', u2⟩ := q2
        simp only [e2, Option.some.injEq, Prod.mk.injEq] at h
        rw [← h.1]
        exact ⟨condA_ok e1 hc.1, condAll_ok e2 hc.2⟩
theorem currB_ok {H : Heap} {v : Av} (h : currB H v = true) : curr H v := by
  unfold currB at h
  unfold curr
  repeat' split at h
  all_goals simp_all

def chkBin (b : Bk) : Av → Av → Bool
  | .d (.int _ _), .d (.int _ c) => match b with
    | .quo | .rem => c != 0
    | _ => true
  | .d (.str a), .d (.str c) => match b with
    | .cat => Nat.ble (a ++ c).length 68719476736
    | _ => true
  | _, _ => true

theorem chkBin_ok {b : Bk} {u v : Av} {p : Prop} {d : Dat} (h : binOpD b u v = some (p, d)) (hc : chkBin b u v = true) : p := by
  unfold binOpD at h
  split at h
  · split at h
    · unfold binInt at h
      unfold chkBin at hc
      split at h <;> first | (cases h; done) | (cases h; trivial) | (cases h; simpa using hc)
    · cases h
  · unfold binStr at h
    unfold chkBin at hc
    split at h <;> first | (cases h; done) | (cases h; trivial) | (cases h; exact Nat.le_of_ble_eq_true hc)
  · split at h <;> first | (cases h; done) | (cases h; trivial)
  · split at h
    · split at h <;> first | (cases h; done) | (cases h; trivial)
    · split at h <;> first | (cases h; done) | (cases h; trivial)
    · cases h
  · split at h <;> first | (cases h; done) | (cases h; trivial)
  · cases h

def chkBit (op : BinOp) (c : Int) : Bool := match op with
  | .shl | .shr => decide (0 ≤ c)
  | _ => true

/-- does an operation's condition hold? -/
def chk (τ : Tmps) (H : Heap) : IOp → Bool
  | .bls sz ps => match vals τ ps with
    | some vs => condAll H vs && match datumAll H vs with
      | some (_, xs, _) => decide (∀ x ∈ xs, x.cells.length = sz)
      | none => true
    | none => true
  | .ld n a => match val τ a with
    | some (.ref i off) => match H i, n with
      | some (.fbox ds), none => decide (off < ds.length)
      | some (.fbox ds), some n => decide (off + n ≤ ds.length)
      | _, _ => true
    | some (.el i ver k off) => match H i, n with
      | some (.row v' _ xs), none => decide (ver = v' ∧ off < (nth xs k).cells.length)
      | some (.row v' _ xs), some n => decide (ver = v' ∧ off + n ≤ (nth xs k).cells.length)
      | _, _ => true
    | some (.d (.ptr cs)) => match n with
      | none => decide (0 < cs.length)
      | some n => decide (n ≤ cs.length)
    | some (.d (.glo g)) => match globOf g, n with
      | some cs, none => decide (0 < cs.length)
      | some cs, some n => decide (n ≤ cs.length)
      | none, _ => true
    | _ => true
  | .sto n a v => match val τ a, val τ v with
    | some (.el i ver k off), some (.d x) => match H i with
      | some (.row v' _ xs) => match n with
        | none => decide (ver = v' ∧ x.cells.length = 1 ∧ off + 1 ≤ (nth xs k).cells.length)
        | some n => decide (ver = v' ∧ x.cells.length = n ∧ off + n ≤ (nth xs k).cells.length)
      | _ => true
    | _, _ => true
  | .fld n x off => match val τ x, n with
    | some (.d (.agg cs)), some n => decide (off + n ≤ cs.length)
    | _, _ => true
  | .ixa _ sz a i => match val τ a, val τ i with
    | some (.d (.list sz' xs)), some (.d (.int _ n)) => decide (sz' = sz ∧ 0 ≤ n ∧ n < xs.length)
    | some (.ms j ver), some (.d (.int _ n)) => match H j with
      | some (.row v' sz' xs) => decide (ver = v' ∧ sz' = sz ∧ 0 ≤ n ∧ n < xs.length)
      | some (.frz v' sz' xs) => decide (ver = v' ∧ sz' = sz ∧ 0 ≤ n ∧ n < xs.length)
      | _ => true
    | some (.sub j ver _ len), some (.d (.int _ n)) => match H j with
      | some (.row v' sz' _) => decide (ver = v' ∧ sz' = sz ∧ 0 ≤ n ∧ n < len)
      | _ => true
    | _, _ => true
  | .ixr len _ a i => match val τ a, val τ i with
    | some (.ref _ _), some (.d (.int _ n)) => decide (0 ≤ n ∧ n < len)
    | some (.d (.ptr _)), some (.d (.int _ n)) => decide (0 ≤ n ∧ n < len)
    | some (.d (.glo _)), some (.d (.int _ n)) => decide (0 ≤ n ∧ n < len)
    | _, _ => true
  | .ixs x i => match val τ x, val τ i with
    | some (.d (.str s)), some (.d (.int _ n)) => decide (0 ≤ n ∧ n < s.length)
    | _, _ => true
  | .ixv n len sz x i => match val τ x, val τ i, n with
    | some (.d (.agg cs)), some (.d (.int _ k)), none => decide (0 ≤ k ∧ k < len ∧ k.toNat * sz < cs.length)
    | some (.d (.agg cs)), some (.d (.int _ k)), some n => decide (0 ≤ k ∧ k < len ∧ k.toNat * sz + n ≤ cs.length)
    | _, _, _ => true
  | .bin b x y => match val τ x, val τ y with
    | some u, some v => chkBin b u v
    | _, _ => true
  | .bit op x y => match val τ x, val τ y with
    | some (.d (.int _ _)), some (.d (.int _ c)) => chkBit op c
    | _, _ => true
  | .mks _ _ len cap => match val τ len, val τ cap with
    | some (.d (.int _ l)), some (.d (.int _ c)) => decide (0 ≤ l ∧ l ≤ c ∧ c ≤ 68719476736)
    | _, _ => true
  | .slc n x lo hi mx => match val τ x with
    | some v => match listOf H v with
      | some (sz, xs) => match mx with
        | none => match ofBound τ 0 lo, ofBound τ xs.length hi with
          | some l, some h => currB H v && decide (sz = n ∧ 0 ≤ l ∧ l ≤ h ∧ h ≤ xs.length)
          | _, _ => true
        | some _ => currB H v
      | none => true
    | none => true
  | .sls x lo hi => match val τ x with
    | some (.d (.str s)) => match ofBound τ 0 lo, ofBound τ s.length hi with
      | some l, some h => decide (0 ≤ l ∧ l ≤ h ∧ h ≤ s.length)
      | _, _ => true
    | _ => true
  | .len x => match val τ x with
    | some v => currB H v
    | none => true
  | .app sz x y => match val τ x, val τ y with
    | some u, some v => match listOf H v with
      | some (sz', ys) => currB H v && match u with
        | .d (.nil _) => decide (sz' = sz ∧ 0 < sz ∧ ys.length ≤ 68719476736 ∧ ∀ y ∈ ys, y.cells.length = sz)
        | .ms i ver => match H i with
          | some (.row v' sz'' xs) => decide (ver = v' ∧ sz' = sz ∧ sz'' = sz ∧ xs.length + ys.length ≤ 68719476736)
          | _ => true
        | .sub i ver _ n => match H i with
          | some (.row v' sz'' _) => decide (ver = v' ∧ sz' = sz ∧ sz'' = sz ∧ n + ys.length ≤ 68719476736 ∧ 0 < n + ys.length)
          | _ => true
        | _ => true
      | none => true
    | _, _ => true
  | .b2s x => match val τ x with
    | some v => match listOf H v with
      | some (_, xs) => currB H v && decide (xs.length ≤ 68719476736)
      | none => true
    | none => true
  | _ => true

theorem chk_ok {τ : Tmps} {H : Heap} {d : Nat} {io : IOp} {r : Res} (h : step τ H d io = some r) (hc : chk τ H io = true) : r.c := by
  cases io with
  | bls sz ps =>
    simp only [step] at h
    simp only [chk] at hc
    cases e : vals τ ps with
    | none => simp [e] at h
    | some vs =>
      simp only [e, Bool.and_eq_true] at h hc
      cases e2 : datumAll H vs with
      | none => simp [e2] at h
      | some q =>
        obtain ⟨p, xs, u⟩ := q
        simp only [e2, decide_eq_true_eq] at h hc
        split at h
        · split at h
          · simp only [Option.some.injEq] at h
            subst h
            exact ⟨condAll_ok e2 hc.1, hc.2⟩
          · cases h
        · simp only [Option.some.injEq] at h
          subst h
          exact ⟨condAll_ok e2 hc.1, hc.2⟩
  | bin b x y =>
    simp only [step] at h
    simp only [chk] at hc
    split at h
    · rename_i u v e1 e2
      simp only [e1, e2] at hc
      split at h
      · rename_i c q e3
        cases h
        exact chkBin_ok e3 hc
      · cases h
    · cases h
  | bit op x y =>
    simp only [step] at h
    simp only [chk] at hc
    split at h
    · rename_i k a k' c e1 e2
      simp only [e1, e2] at hc
      split at h
      · rename_i p q e3
        cases h
        unfold bitD at e3
        unfold chkBit at hc
        split at e3 <;> (repeat' split at e3) <;> first | (cases e3; done) | (cases e3; trivial) | (cases e3; simpa using hc)
      · cases h
    · cases h
  | slc n x lo hi mx =>
    simp only [step] at h
    simp only [chk] at hc
    (repeat' split at h) <;> first | (cases h; done) | (cases h; simp_all [curr]; done) | (cases h; simp_all; exact currB_ok hc) | (cases h; simp_all; exact currB_ok hc.1)
  | app sz x y =>
    simp only [step] at h
    simp only [chk] at hc
    (repeat' split at h) <;> first | (cases h; done) | (cases h; simp_all; exact currB_ok hc.1)
  | len x =>
    simp only [step] at h
    simp only [chk] at hc
    (repeat' split at h) <;> first | (cases h; done) | (cases h; simp_all; exact currB_ok hc)
  | b2s x =>
    simp only [step] at h
    simp only [chk] at hc
    (repeat' split at h) <;> first | (cases h; done) | (cases h; simp_all; exact currB_ok hc.1)
  | mov x =>
    simp only [step] at h
    obtain ⟨v, _, rfl⟩ := Option.map_eq_some_iff.1 h
    trivial
  | _ =>
    simp only [step] at h
    simp only [chk] at hc
    (repeat' split at h) <;> first | (cases h; done) | (cases h; trivial) | (cases h; simp_all; done)
end Av
/- An evaluator of the intermediate form, for closed calls: regions, code. -/
namespace Av
open Go
variable [Glb] [Rls]

/-! ### what a value speaks of -/
mutual
def idsA : Av → List Nat
  | .ref i _ | .ms i _ | .sub i _ _ _ | .el i _ _ _ | .mp i => [i]
  | .agg cs => idsAL cs
  | .tup cs => idsAL cs
  | .clo _ a b => idsAL a ++ idsAL b
  | _ => []
def idsAL : List Av → List Nat
  | [] => []
  | c :: r => idsA c ++ idsAL r
end
def idsAT : List (Nat × Av) → List Nat
  | [] => []
  | e :: r => idsA e.2 ++ idsAT r
def idsO : Obj → List Nat
  | .box cs => idsAL cs
  | .lp l => idsAT l.tm
  | _ => []
mutual
def inB (ks : List Nat) : Av → Bool
  | .ref i _ | .ms i _ | .sub i _ _ _ | .el i _ _ _ | .mp i => ks.contains i
  | .agg cs => inBL ks cs
  | .tup cs => inBL ks cs
  | .clo _ a b => inBL ks a && inBL ks b
  | _ => true
def inBL (ks : List Nat) : List Av → Bool
  | [] => true
  | c :: r => inB ks c && inBL ks r
end
def inBT (ks : List Nat) : List (Nat × Av) → Bool
  | [] => true
  | e :: r => inB ks e.2 && inBT ks r
def inBO (ks : List Nat) : Obj → Bool
  | .box cs => inBL ks cs
  | .lp l => inBT ks l.tm
  | _ => true

theorem inB_ok {G : Heap} {ks : List Nat} (hG : ∀ i, ks.contains i = true → (G i).isSome = true) (c : Av) : inB ks c = true → idsIn G c :=
  Av.rec (motive_1 := fun c => inB ks c = true → idsIn G c) (motive_2 := fun cs => inBL ks cs = true → idsInL G cs)
    (fun _ _ => trivial) (fun i _ h => hG i h) (fun i _ h => hG i h) (fun i _ _ _ h => hG i h) (fun i _ _ _ h => hG i h) (fun cs ih h => ih h) (fun cs ih h => ih h)
    (fun f a b iha ihb h => by simp only [inB, Bool.and_eq_true] at h; exact ⟨iha h.1, ihb h.2⟩) (fun i h => hG i h) (fun _ => trivial) (fun _ => trivial) (fun _ => trivial)
    (fun c r ihc ihr h => by simp only [inBL, Bool.and_eq_true] at h; exact ⟨ihc h.1, ihr h.2⟩) c
theorem inBL_ok {G : Heap} {ks : List Nat} (hG : ∀ i, ks.contains i = true → (G i).isSome = true) : ∀ cs : List Av, inBL ks cs = true → idsInL G cs
  | [], _ => trivial
  | c :: r, h => by simp only [inBL, Bool.and_eq_true] at h; exact ⟨inB_ok hG c h.1, inBL_ok hG r h.2⟩
theorem inBT_ok {G : Heap} {ks : List Nat} (hG : ∀ i, ks.contains i = true → (G i).isSome = true) : ∀ cs : List (Nat × Av), inBT ks cs = true → idsInT G cs
  | [], _ => trivial
  | c :: r, h => by simp only [inBT, Bool.and_eq_true] at h; exact ⟨inB_ok hG c.2 h.1, inBT_ok hG r h.2⟩
theorem inBO_ok {G : Heap} {ks : List Nat} (hG : ∀ i, ks.contains i = true → (G i).isSome = true) (o : Obj) (h : inBO ks o = true) : objIn G o := by
  cases o with
  | box cs => exact inBL_ok hG cs h
  | lp l => exact inBT_ok hG l.tm h
  | _ => trivial

theorem get_keeps {α : Type} (l : List (Nat × α)) (ks : List Nat) (j : Nat) : get (keeps l ks) j = if ks.contains j then get l j else none := by
  induction l with
  | nil => simp [keeps, get]
  | cons e r ih =>
    obtain ⟨k, u⟩ := e
    simp only [keeps]
    split
    · rename_i h
      simp only [get, ih]
      split
      · subst_vars; simp_all
      · rfl
    · rename_i h
      rw [ih]
      simp only [get]
      split
      · split
        · subst_vars; simp_all
        · rfl
      · rfl

def keys {α : Type} (l : List (Nat × α)) : List Nat := l.map (·.1)
theorem get_keys {α : Type} {l : List (Nat × α)} {i : Nat} : (keys l).contains i = true ↔ (get l i).isSome = true := by
  induction l with
  | nil => simp [keys, get]
  | cons e r ih =>
    obtain ⟨k, u⟩ := e
    simp only [keys, List.map_cons, List.contains_cons, get, Bool.or_eq_true, beq_iff_eq] at ih ⊢
    by_cases h : k = i
    · subst h; simp
    · rw [if_neg h, ← ih]
      simp [Ne.symm h]

/-- objects that can be reached -/
def reach (hp : List (Nat × Obj)) : Nat → List Nat → List Nat → List Nat
  | 0, _, seen => seen
  | _ + 1, [], seen => seen
  | n + 1, i :: todo, seen => if seen.contains i then reach hp n todo seen else match get hp i with
    | some o => reach hp n (idsO o ++ todo) (i :: seen)
    | none => reach hp n todo seen

def fuelR : Nat := 4000

/-- may the objects but these be forgotten? -/
def keepOK (Db : Nat → Bool) (tm : List (Nat × Av)) (hp : List (Nat × Obj)) : List (Nat × Obj) → Bool
  | hp' => inBT (keys hp') tm && (hp'.all fun e => inBO (keys hp') e.2) && (hp.all fun e => !Db e.1 || (keys hp').contains e.1)

theorem keepOK_wk {D : Nat → Prop} {Db : Nat → Bool} (hD : ∀ i, D i → Db i = true) {tm : List (Nat × Av)} {hp : List (Nat × Obj)} {ks : List Nat} {tm' : List (Nat × Av)} (htm : ∀ t v, get tm' t = some v → get tm t = some v) (h : keepOK Db tm' hp (keeps hp ks) = true) :
    Wk D ⟨tm, hp⟩ ⟨tm', keeps hp ks⟩ := by
  simp only [keepOK, Bool.and_eq_true, List.all_eq_true, Bool.or_eq_true, Bool.not_eq_true'] at h
  obtain ⟨⟨h1, h2⟩, h3⟩ := h
  have hG : ∀ i, (keys (keeps hp ks)).contains i = true → (get (keeps hp ks) i).isSome = true := fun i hi => get_keys.1 hi
  have hle : ∀ i o, get (keeps hp ks) i = some o → get hp i = some o := by
    intro i o hi
    rw [get_keeps] at hi
    split at hi
    · exact hi
    · cases hi
  have hobj : ∀ i o, get (keeps hp ks) i = some o → objIn (get (keeps hp ks)) o := fun i o hi => inBO_ok hG o (h2 (i, o) (get_mem _ i o hi))
  intro β A w a hc ht
  refine ⟨β, A, ⟨?_, fun i j o o' b q1 l1 q2 l2 => hc.inj i j o o' b (hle i o q1) l1 (hle j o' q2) l2, fun i o b q1 => hc.sep i o b (hle i o q1), hc.old, hc.glob⟩, ?_, fun i o b q1 q2 q3 => ⟨i, o, hle i o q1, q2, q3⟩, fun _ h => .inl h, ?_⟩
  · intro i o hi
    have := hc.objs i o (hle i o hi)
    have hin := hobj i o hi
    cases o with
    | box cs =>
      obtain ⟨b, C, T, e1, e2, e3, e4, e5⟩ := this
      exact ⟨b, C, T, e1, e2, e3, e4, fun j c v hj hv => (e5 j c v hj hv).less hle (idsInL_get (hin : idsInL _ cs) j c hj)⟩
    | row ver sz xs => exact this
    | mapo es => exact this
    | fbox ds => trivial
    | frz ver sz xs => trivial
    | gone => trivial
    | sit s p => exact this
    | lp l =>
      obtain ⟨b, r, e1, e2, e3, e4, e6, e7, e8, e9, e10⟩ := this
      refine ⟨b, r, e1, e2, e3, e4, e6, e7, e8, e9, fun t v htv => ?_⟩
      obtain ⟨u, q1, q2⟩ := e10 t v htv
      exact ⟨u, q1, q2.less hle (idsInT_get (hin : idsInT _ l.tm) t v htv)⟩
  · intro t v htv
    obtain ⟨u, q1, q2⟩ := ht t v (htm t v htv)
    exact ⟨u, q1, q2.less hle (idsInT_get (inBT_ok hG _ h1) t v htv)⟩
  · intro c u hb hv
    have hin : ∀ i, D i → (get hp i).isSome = true → (get (keeps hp ks) i).isSome = true := by
      intro i hi hs
      obtain ⟨o, ho⟩ := Option.isSome_iff_exists.1 hs
      rcases h3 (i, o) (get_mem _ i o ho) with h | h
      · rw [hD i hi] at h; cases h
      · exact hG i h
    refine hv.less hle ?_
    cases hv with
    | d _ _ _ => trivial
    | ref i _ _ _ _ _ h0 _ _ => exact hin i hb h0
    | ms i _ _ _ h0 _ _ => exact hin i hb h0
    | sub i _ _ _ _ _ h0 _ _ => exact hin i hb h0
    | el i _ _ _ _ _ _ _ h0 _ => exact hin i hb h0
    | mp i _ _ h0 _ _ _ => exact hin i hb h0
    | _ => exact hb.elim

/-- at a loop's head: the temporaries that were there, the objects that can be reached -/
def gc (Db : Nat → Bool) (ts : List Nat) (st : St) : St :=
  let tm := keeps st.tm ts
  let hp := keeps st.hp (reach st.hp fuelR (idsAT tm ++ (keys st.hp).filter Db) [])
  if keepOK Db tm st.hp hp then ⟨tm, hp⟩ else st

theorem gc_ok {D : Nat → Prop} {Db : Nat → Bool} (hD : ∀ i, D i → Db i = true) (ts : List Nat) (st : St) : Wk D st (gc Db ts st) := by
  unfold gc
  dsimp only
  split
  · rename_i h
    refine keepOK_wk hD ?_ h
    intro t v htv
    rw [get_keeps] at htv
    split at htv
    · exact htv
    · cases htv
  · exact Wk.refl st

/-- a row's handles in temporaries as data -/
def frzV (i ver sz : Nat) (xs : List Dat) : Av → Av
  | .ms j v => if j = i ∧ v = ver then .d (.list sz xs) else .ms j v
  | .sub j v off len => if j = i ∧ v = ver then .d (.list sz ((xs.drop off).take len)) else .sub j v off len
  | c => c
def frzT (i ver sz : Nat) (xs : List Dat) : List (Nat × Av) → List (Nat × Av)
  | [] => []
  | (t, c) :: r => (t, frzV i ver sz xs c) :: frzT i ver sz xs r
/-- a row frozen -/
def frz1 (i : Nat) (st : St) : St := match get st.hp i with
  | some (.row ver sz xs) => ⟨frzT i ver sz xs st.tm, put st.hp i (.frz ver sz xs)⟩
  | _ => st

theorem get_frzT {i ver sz : Nat} {xs : List Dat} : ∀ (l : List (Nat × Av)) (t : Nat), get (frzT i ver sz xs l) t = (get l t).map (frzV i ver sz xs)
  | [], _ => rfl
  | (k, c) :: r, t => by simp only [frzT, get]; split; rfl; exact get_frzT r t

theorem frz1_ok {D : Nat → Prop} (i : Nat) (st : St) : Wk D st (frz1 i st) := by
  unfold frz1
  split
  · rename_i ver sz xs hrow
    refine Wk.of_stp ?_
    intro β A w a hc ht
    have hst := Stp.freeze hc hrow
    have hh : get (put st.hp i (.frz ver sz xs)) = upd (get st.hp) i (some (.frz ver sz xs)) := funext fun j => by rw [get_put]; rfl
    rw [hh]
    refine ⟨_, _, hst, ?_⟩
    intro t v htv
    simp only [get_frzT] at htv
    cases hg : get st.tm t with
    | none => simp [hg] at htv
    | some c =>
      simp only [hg, Option.map_some, Option.some.injEq] at htv
      subst htv
      obtain ⟨u, q1, q2⟩ := ht t c hg
      refine ⟨u, q1, ?_⟩
      have hv := hst.vals _ _ q2
      unfold frzV
      split
      · split
        · rename_i e
          obtain ⟨rfl, rfl⟩ := e
          cases hv with | ms _ _ _ hu h0 g1 g2 => exact .d _ _ (g2 _ _ (upd_same _ _ _))
        · exact hv
      · split
        · rename_i e
          obtain ⟨rfl, rfl⟩ := e
          cases hv with | sub _ _ _ _ _ hu h0 g1 g2 => exact .d _ _ (g2 _ _ (upd_same _ _ _))
        · exact hv
      · exact hv
  · exact Wk.refl st

/-! ### regions -/
/-- what carries out calls: whom, with what, in which heap; the result, the heap behind, the objects looked at, those written -/
abbrev CallF := Cee → List Av → List (Nat × Obj) → Option (Av × List (Nat × Obj) × List Nat × List Nat)

def CallSound (P : Program) (call : CallF) : Prop := ∀ c vs hp v hp' tk uk, call c vs hp = some (v, hp', tk, uk) →
  ∃ T ups, CallOK P c vs T v ups ∧ tgets (get hp) T ∧ (∀ i, get hp' i = hputs (get hp) ups i) ∧ T.map (·.1) = tk ∧ ups.map (·.1) = uk

def evS (call : CallF) : Ss → St → Log → Option (St × Log)
  | .nil, st, lg => some (st, lg)
  | .op d o r, st, lg => match chk (get st.tm) (get st.hp) o with
    | true => match step (get st.tm) (get st.hp) (d.getD 0) o with
      | some x => evS call r (st.app d x.v x.ups) (lg ++ [(rd (get st.tm) (d.getD 0) o, x.ups.map (·.1))])
      | none => none
    | false => none
  | .call d f args r, st, lg => match target (get st.tm) f args with
    | some (c, vs) => match call c vs st.hp with
      | some (v, hp, tk, uk) => evS call r (st.set d v hp) (lg ++ [(tk, uk)])
      | none => none
    | none => none
  | .sc c b body y d r, st, lg => match get st.tm c with
    | some (.d (.bool x)) => if x = b then match evS call body st [] with
        | some (st', l) => match val (get st'.tm) y with
          | some (.d (.bool yv)) => evS call r ⟨put (drops st.tm body.dsts) d (.d (.bool (if b then x && yv else x || yv))), st'.hp⟩ (lg ++ (l ++ [([], [])]))
          | _ => none
        | none => none
      else evS call r ⟨put (drops st.tm body.dsts) d (.d (.bool x)), st.hp⟩ (lg ++ (List.replicate body.len ([], []) ++ [([], [])]))
    | _ => none

theorem evS_len {call : CallF} : ∀ (s : Ss) (st : St) (lg : Log) (st' : St) (lg' : Log), evS call s st lg = some (st', lg') → ∃ l, lg' = lg ++ l ∧ l.length = s.len
  | .nil, st, lg, st', lg', h => by simp only [evS, Option.some.injEq, Prod.mk.injEq] at h; exact ⟨[], by simp [h.2], rfl⟩
  | .op d o r, st, lg, st', lg', h => by
    simp only [evS] at h
    split at h
    · split at h
      · obtain ⟨l, h1, h2⟩ := evS_len r _ _ _ _ h
        exact ⟨_ :: l, by rw [h1, List.append_assoc]; rfl, by simp [Ss.len, h2]⟩
      · cases h
    · cases h
  | .call d f args r, st, lg, st', lg', h => by
    simp only [evS] at h
    split at h
    · split at h
      · obtain ⟨l, h1, h2⟩ := evS_len r _ _ _ _ h
        exact ⟨_ :: l, by rw [h1, List.append_assoc]; rfl, by simp [Ss.len, h2]⟩
      · cases h
    · cases h
  | .sc c b body y d r, st, lg, st', lg', h => by
    simp only [evS] at h
    split at h
    · split at h
      · split at h
        · rename_i st1 l1 hb
          obtain ⟨l0, g1, g2⟩ := evS_len body _ _ _ _ hb
          split at h
          · obtain ⟨l, h1, h2⟩ := evS_len r _ _ _ _ h
            refine ⟨l1 ++ [([], [])] ++ l, by rw [h1]; simp, ?_⟩
            simp only [List.nil_append] at g1
            subst g1
            simp [Ss.len, g2, h2]
          · cases h
        · cases h
      · obtain ⟨l, h1, h2⟩ := evS_len r _ _ _ _ h
        refine ⟨List.replicate body.len ([], []) ++ [([], [])] ++ l, by rw [h1]; simp, ?_⟩
        simp [Ss.len, h2]
    · cases h

theorem evS_ok {P : Program} {call : CallF} (hcall : CallSound P call) : ∀ (s : Ss) (st : St) (lg : Log) (st' : St) (lg' : Log), evS call s st lg = some (st', lg') → wpsL P s (fun s l => s = st' ∧ l = lg') st lg
  | .nil, st, lg, st', lg', h => by simp only [evS, Option.some.injEq, Prod.mk.injEq] at h; exact h
  | .op d o r, st, lg, st', lg', h => by
    simp only [evS] at h
    split at h
    · rename_i hc
      split at h
      · rename_i x hx
        simp only [wpsL, hx]
        exact ⟨chk_ok hx hc, evS_ok hcall r _ _ _ _ h⟩
      · cases h
    · cases h
  | .call d f args r, st, lg, st', lg', h => by
    simp only [evS] at h
    split at h
    · rename_i c vs ht
      split at h
      · rename_i v hp tk uk hv
        obtain ⟨T, ups, h1, h2, h3, h4, h5⟩ := hcall _ _ _ _ _ _ _ hv
        simp only [wpsL, ht]
        refine ⟨T, v, ups, hp, h1, h2, h3, ?_⟩
        rw [h4, h5]
        exact evS_ok hcall r _ _ _ _ h
      · cases h
    · cases h
  | .sc c b body y d r, st, lg, st', lg', h => by
    simp only [evS] at h
    split at h
    · rename_i x hx
      simp only [wpsL, hx]
      split at h
      · rename_i hxb
        split at h
        · rename_i st1 l1 hb
          split at h
          · rename_i yv hy
            obtain ⟨l0, g1, g2⟩ := evS_len body _ _ _ _ hb
            refine ⟨yv, st1.hp, l1, by rw [g1]; simpa using g2, fun _ => wpsL_mono ?_ body _ _ (evS_ok hcall body _ _ _ _ hb), fun hn => absurd hxb hn, evS_ok hcall r _ _ _ _ h⟩
            rintro s l ⟨rfl, rfl⟩
            exact ⟨hy, rfl, rfl⟩
          · cases h
        · cases h
      · rename_i hxb
        refine ⟨false, st.hp, List.replicate body.len ([], []), by simp, fun he => absurd he hxb, fun _ => rfl, ?_⟩
        have e : (if b = true then x && false else x || false) = x := by cases b <;> cases x <;> simp_all
        rw [e]
        exact evS_ok hcall r _ _ _ _ h
    · cases h

theorem wps_of_wpsL {P : Program} : ∀ (s : Ss) (K : St → Prop) (st : St) (lg : Log), wpsL P s (fun s _ => K s) st lg → wps P s K st
  | .nil, K, st, lg, h => h
  | .op d o r, K, st, lg, h => by
    simp only [wpsL] at h
    simp only [wps]
    split at h
    · exact ⟨h.1, wps_of_wpsL r K _ _ h.2⟩
    · exact h.elim
  | .call d f args r, K, st, lg, h => by
    simp only [wpsL] at h
    simp only [wps]
    split at h
    · obtain ⟨T, v, ups, hp, h1, h2, h3, h4⟩ := h
      exact ⟨T, v, ups, hp, h1, h2, h3, wps_of_wpsL r K _ _ h4⟩
    · exact h.elim
  | .sc c b body y d r, K, st, lg, h => by
    simp only [wpsL] at h
    simp only [wps]
    split at h
    · obtain ⟨yv, hp, l, h1, h2, h3, h4⟩ := h
      refine ⟨yv, hp, fun e => wps_of_wpsL body _ _ [] (wpsL_mono ?_ body _ _ (h2 e)), h3, wps_of_wpsL r K _ _ h4⟩
      rintro s l' ⟨q1, q2, _⟩
      exact ⟨q1, q2⟩
    · exact h.elim

theorem wps_mono {P : Program} {K K' : St → Prop} (hK : ∀ s, K s → K' s) : ∀ (s : Ss) (st : St), wps P s K st → wps P s K' st
  | .nil, st, h => hK _ h
  | .op d o r, st, h => by
    simp only [wps] at h ⊢
    split at h
    · exact ⟨h.1, wps_mono hK r _ h.2⟩
    · exact h.elim
  | .call d f args r, st, h => by
    simp only [wps] at h ⊢
    split at h
    · obtain ⟨T, v, ups, hp, h1, h2, h3, h4⟩ := h
      exact ⟨T, v, ups, hp, h1, h2, h3, wps_mono hK r _ h4⟩
    · exact h.elim
  | .sc c b body y d r, st, h => by
    simp only [wps] at h ⊢
    split at h
    · obtain ⟨yv, hp, h1, h2, h3⟩ := h
      exact ⟨yv, hp, h1, h2, wps_mono hK r _ h3⟩
    · exact h.elim

theorem wpc_mono {P : Program} {D : Nat → Prop} : ∀ (ic : Ic) {Q Q' : Exit → St → Prop} (st : St), (∀ e s, Q e s → Q' e s) → wpc P D ic Q st → wpc P D ic Q' st
  | .skip, Q, Q', st, hQ, h => hQ _ _ h
  | .reg s, Q, Q', st, hQ, h => wps_mono (fun s => hQ _ s) s st h
  | .regd un s, Q, Q', st, hQ, h => wpsL_mono (fun s lg h => ⟨h.1, hQ _ _ h.2⟩) s st [] h
  | .dn a ts, Q, Q', st, hQ, h => wpc_mono a st (fun e s h => by cases e <;> exact hQ _ _ h) h
  | .seq a b, Q, Q', st, hQ, h => wpc_mono a st (fun e s h => by
      cases e with
      | normal => exact wpc_mono b s hQ h
      | _ => exact hQ _ _ h) h
  | .ite c a b, Q, Q', st, hQ, h => by
    simp only [wpc] at h ⊢
    split at h
    · exact ⟨fun e => wpc_mono a st hQ (h.1 e), fun e => wpc_mono b st hQ (h.2 e)⟩
    · exact h.elim
  | .block id b, Q, Q', st, hQ, h => wpc_mono b st (fun e s h => by
      cases e with
      | exit id' =>
        simp only at h ⊢
        split at h
        · rename_i e; rw [if_pos e]; exact hQ _ _ h
        · rename_i e; rw [if_neg e]; exact hQ _ _ h
      | _ => exact hQ _ _ h) h
  | .loop b, Q, Q', st, hQ, h => by
    obtain ⟨I, h0, h1⟩ := h
    refine ⟨I, h0, fun n s hs => wpc_mono b s (fun e s h => ?_) (h1 n s hs)⟩
    cases e with
    | normal => exact h
    | _ => exact hQ _ _ h
  | .exit id, Q, Q', st, hQ, h => hQ _ _ h
  | .lab, Q, Q', st, hQ, h => hQ _ _ h
  | .scp a, Q, Q', st, hQ, h => wpc_mono a st (fun e s h => by
      cases e with
      | goto l => exact h.elim
      | _ => exact hQ _ _ h) h
  | .ret, Q, Q', st, hQ, h => hQ _ _ h
  | .bad, _, _, _, _, h => h
  | .rng f N lid ps c1 c2 asg body, Q, Q', st, hQ, h => by
    obtain ⟨h0, h⟩ := h
    refine ⟨h0, fun e1 e2 => ?_⟩
    have h := h e1 e2
    split at h
    · obtain ⟨T, v, ups, g1, g2, g3, hp, l, g4, g5, g6, g7, g8⟩ := h
      refine ⟨T, v, ups, g1, g2, g3, hp, l, g4, g5, g6, g7, ?_⟩
      split at g8
      · exact hQ _ _ g8
      · exact hQ _ _ g8
      · exact hQ _ _ g8
      · exact g8.elim
    · exact h.elim

/-! ### code -/
def firstS {α : Type} (f : Nat → Option α) : List Nat → Option α
  | [] => none
  | i :: r => match f i with
    | some x => some x
    | none => firstS f r
theorem firstS_ok {α : Type} {f : Nat → Option α} {x : α} : ∀ {l : List Nat}, firstS f l = some x → ∃ i, f i = some x
  | [], h => by cases h
  | i :: r, h => by
    simp only [firstS] at h
    split at h
    · rename_i y hy; cases h; exact ⟨i, hy⟩
    · exact firstS_ok h
def rowsOf (Db : Nat → Bool) : List (Nat × Obj) → List Nat
  | [] => []
  | (i, .row ..) :: r => if Db i then rowsOf Db r else i :: rowsOf Db r
  | _ :: r => rowsOf Db r

def evL (Db : Nat → Bool) (ts : List Nat) (f : St → Option (Exit × St)) : Nat → St → Option (Exit × St)
  | 0, _ => none
  | n + 1, st => match f st with
    | some (.normal, s) => match evL Db ts f n (gc Db ts s) with
      | some r => some r
      | none => firstS (fun i => evL Db ts f n (gc Db ts (frz1 i (gc Db ts s)))) (rowsOf Db (gc Db ts s).hp)
    | r => r

def evC (call : CallF) (L : Nat) (Db : Nat → Bool) : Ic → St → Option (Exit × St)
  | .skip, st => some (.normal, st)
  | .reg s, st => match evS call s st [] with
    | some (s, _) => some (.normal, s)
    | none => none
  | .regd un s, st => match evS call s st [] with
    | some (s, lg) => if apartAll lg un then some (.normal, s) else none
    | none => none
  | .dn a ts, st => match evC call L Db a st with
    | some (.normal, s) => some (.normal, ⟨drops s.tm ts, s.hp⟩)
    | r => r
  | .seq a b, st => match evC call L Db a st with
    | some (.normal, s) => evC call L Db b s
    | r => r
  | .ite c a b, st => match val (get st.tm) c with
    | some (.d (.bool x)) => match x with
      | true => evC call L Db a st
      | false => evC call L Db b st
    | _ => none
  | .block id b, st => match evC call L Db b st with
    | some (.exit id', s) => if id' = id then some (.normal, s) else some (.exit id', s)
    | r => r
  | .loop b, st => evL Db (keys st.tm) (fun s => evC call L Db b s) L (gc Db (keys st.tm) st)
  | .exit id, st => some (.exit id, st)
  | .ret, st => some (.ret, st)
  | .bad, _ => none
  | .lab, st => some (.normal, st)
  | .scp b, st => match evC call L Db b st with
    | some (.goto _, _) => none
    | r => r
  | .rng f N lid ps c1 c2 _ _, st => match get st.hp lid with
    | some _ => none
    | none => match targetV (get st.tm) (.dyn f) [.mp lid] with
      | some (.fn g, vs) => match call (.fn g) vs (put st.hp lid (.lp ⟨st.tm, N, ps, c1, c2, .ready, none⟩)) with
        | some (_, hp, _, _) => match get hp lid with
          | some (.lp l) => match l.s with
            | .busy => none
            | _ => match l.j with
              | none => some (.normal, ⟨st.tm, put hp lid .gone⟩)
              | some .ret => some (.ret, ⟨st.tm, put hp lid .gone⟩)
              | some (.exit id) => some (.exit id, ⟨st.tm, put hp lid .gone⟩)
              | _ => none
          | _ => none
        | none => none
      | _ => none

/-- functions that are called have bodies -/
def CallHas (P : Program) (call : CallF) : Prop := ∀ g vs hp r, call (.fn g) vs hp = some r → (∃ i ∈ idsAL vs, True) → Has P g

theorem evC_ok {P : Program} {D : Nat → Prop} {Db : Nat → Bool} (hD : ∀ i, D i → Db i = true) {call : CallF} {L : Nat} (hcall : CallSound P call) (hhas : CallHas P call) :
    ∀ (ic : Ic) (st : St) (e : Exit) (st' : St), evC call L Db ic st = some (e, st') → wpc P D ic (fun e' s => e' = e ∧ s = st') st := by
  intro ic
  induction ic with
  | skip => intro st e st' h; simp only [evC, Option.some.injEq, Prod.mk.injEq] at h; obtain ⟨rfl, rfl⟩ := h; exact ⟨rfl, rfl⟩
  | reg s =>
    intro st e st' h
    simp only [evC] at h
    split at h
    · rename_i s' lg hs
      simp only [Option.some.injEq, Prod.mk.injEq] at h
      obtain ⟨rfl, rfl⟩ := h
      exact wps_of_wpsL s _ st [] (wpsL_mono (fun s l h => ⟨rfl, h.1⟩) s st [] (evS_ok hcall s _ _ _ _ hs))
    · cases h
  | regd un s =>
    intro st e st' h
    simp only [evC] at h
    split at h
    · rename_i s' lg hs
      split at h
      · rename_i ha
        simp only [Option.some.injEq, Prod.mk.injEq] at h
        obtain ⟨rfl, rfl⟩ := h
        exact wpsL_mono (fun s l h => ⟨by rw [h.2]; exact ha, rfl, h.1⟩) s st [] (evS_ok hcall s _ _ _ _ hs)
      · cases h
    · cases h
  | dn a ts ih =>
    intro st e st' h
    simp only [evC] at h
    split at h
    · rename_i s hs
      simp only [Option.some.injEq, Prod.mk.injEq] at h
      obtain ⟨rfl, rfl⟩ := h
      exact wpc_mono a st (fun e s' h => by obtain ⟨rfl, rfl⟩ := h; exact ⟨rfl, rfl⟩) (ih st _ _ hs)
    · rename_i hne
      refine wpc_mono a st (fun e' s' h' => ?_) (ih st _ _ h)
      obtain ⟨rfl, rfl⟩ := h'
      cases e' with
      | normal => exact absurd h (hne _)
      | _ => exact ⟨rfl, rfl⟩
  | seq a b iha ihb =>
    intro st e st' h
    simp only [evC] at h
    split at h
    · rename_i s hs
      exact wpc_mono a st (fun e' s' h' => by obtain ⟨rfl, rfl⟩ := h'; exact ihb _ _ _ h) (iha st _ _ hs)
    · rename_i hne
      refine wpc_mono a st (fun e' s' h' => ?_) (iha st _ _ h)
      obtain ⟨rfl, rfl⟩ := h'
      cases e' with
      | normal => exact absurd h (hne _)
      | _ => exact ⟨rfl, rfl⟩
  | ite c a b iha ihb =>
    intro st e st' h
    simp only [evC] at h
    simp only [wpc]
    split at h
    · rename_i x hx
      rw [hx]
      split at h
      · exact ⟨fun _ => iha _ _ _ h, fun e => (by cases e)⟩
      · exact ⟨fun e => (by cases e), fun _ => ihb _ _ _ h⟩
    · cases h
  | block id b ih =>
    intro st e st' h
    simp only [evC] at h
    split at h
    · rename_i id' s hs
      refine wpc_mono b st (fun e' s' h' => ?_) (ih st _ _ hs)
      obtain ⟨rfl, rfl⟩ := h'
      simp only
      split at h
      · rename_i e1; rw [if_pos e1]; simp only [Option.some.injEq, Prod.mk.injEq] at h; obtain ⟨rfl, rfl⟩ := h; exact ⟨rfl, rfl⟩
      · rename_i e1; rw [if_neg e1]; simp only [Option.some.injEq, Prod.mk.injEq] at h; obtain ⟨rfl, rfl⟩ := h; exact ⟨rfl, rfl⟩
    · rename_i hne
      refine wpc_mono b st (fun e' s' h' => ?_) (ih st _ _ h)
      obtain ⟨rfl, rfl⟩ := h'
      cases e' with
      | exit id' => exact absurd h (hne _ _)
      | _ => exact ⟨rfl, rfl⟩
  | loop b ih =>
    intro st e st' h
    simp only [evC] at h
    refine ⟨fun n s => evL Db (keys st.tm) (fun s => evC call L Db b s) n s = some (e, st'), ⟨L, _, gc_ok hD _ st, h⟩, ?_⟩
    intro n s hs
    cases n with
    | zero => cases hs
    | succ n =>
      simp only [evL] at hs
      split at hs
      · rename_i s1 h1
        refine wpc_mono b s (fun e' s' h' => ?_) (ih s _ _ h1)
        obtain ⟨rfl, rfl⟩ := h'
        split at hs
        · rename_i r hr
          cases hs
          exact ⟨n, _, by omega, gc_ok hD _ _, hr⟩
        · obtain ⟨i, hi⟩ := firstS_ok hs
          exact ⟨n, _, by omega, (gc_ok hD _ _).trans ((frz1_ok i _).trans (gc_ok hD _ _)), hi⟩
      · rename_i hne
        refine wpc_mono b s (fun e' s' h' => ?_) (ih s _ _ hs)
        obtain ⟨rfl, rfl⟩ := h'
        cases e' with
        | normal => exact absurd hs (hne _)
        | _ => exact ⟨rfl, rfl⟩
  | exit id => intro st e st' h; simp only [evC, Option.some.injEq, Prod.mk.injEq] at h; obtain ⟨rfl, rfl⟩ := h; exact ⟨rfl, rfl⟩
  | ret => intro st e st' h; simp only [evC, Option.some.injEq, Prod.mk.injEq] at h; obtain ⟨rfl, rfl⟩ := h; exact ⟨rfl, rfl⟩
  | bad => intro st e st' h; cases h
  | lab => intro st e st' h; simp only [evC, Option.some.injEq, Prod.mk.injEq] at h; obtain ⟨rfl, rfl⟩ := h; exact ⟨rfl, rfl⟩
  | scp b ih =>
    intro st e st' h
    simp only [evC] at h
    split at h
    · cases h
    · rename_i hne
      refine wpc_mono b st (fun e' s' h' => ?_) (ih st _ _ h)
      obtain ⟨rfl, rfl⟩ := h'
      cases e' with
      | goto l => exact absurd h (hne _ _)
      | _ => exact ⟨rfl, rfl⟩
  | rng f N lid ps c1 c2 asg body _ _ =>
    intro st e st' h
    simp only [evC] at h
    split at h
    · cases h
    rename_i hlid
    refine ⟨hlid, fun _ _ => ?_⟩
    split at h
    case h_2 => cases h
    rename_i g vs htg
    split at h
    case h_2 => cases h
    rename_i v hp tk uk hv
    rw [htg]
    have hmem : ∃ i ∈ idsAL vs, True := by
      have hAL : ∀ (a b : List Av), idsAL (a ++ b) = idsAL a ++ idsAL b := by
        intro a b
        induction a with
        | nil => rfl
        | cons c r ih => simp [idsAL, ih]
      refine ⟨lid, ?_, trivial⟩
      simp only [targetV] at htg
      split at htg
      · simp only [Option.some.injEq, Prod.mk.injEq] at htg; rw [← htg.2, hAL, hAL]; simp [idsAL, idsA]
      · simp only [Option.some.injEq, Prod.mk.injEq] at htg; rw [← htg.2, hAL, hAL]; simp [idsAL, idsA]
      · simp at htg
      · cases htg
    obtain ⟨T, ups, h1, h2, h3, _, _⟩ := hcall _ _ _ _ _ _ _ hv
    have hupd : get (put st.hp lid (.lp ⟨st.tm, N, ps, c1, c2, .ready, none⟩)) = upd (get st.hp) lid (some (.lp ⟨st.tm, N, ps, c1, c2, .ready, none⟩)) := funext fun j => by rw [get_put]; rfl
    rw [hupd] at h2 h3
    split at h
    case h_2 => cases h
    rename_i l hl
    have hll := h3 lid
    rw [hl] at hll
    refine ⟨T, v, ups, hhas _ _ _ _ hv hmem, h1, h2, put hp lid .gone, l, ?_, ?_, hll.symm, ?_, ?_⟩
    · intro i hi
      rw [get_put, if_neg hi, h3, hputs_upd_ne _ _ _ _ _ hi]
    · rw [get_put, if_pos rfl]
    · intro e
      simp [e] at h
    · split at h
      · cases h
      split at h
      · rename_i hj; rw [hj]; simp only [Option.some.injEq, Prod.mk.injEq] at h; obtain ⟨rfl, rfl⟩ := h; exact ⟨rfl, rfl⟩
      · rename_i hj; rw [hj]; simp only [Option.some.injEq, Prod.mk.injEq] at h; obtain ⟨rfl, rfl⟩ := h; exact ⟨rfl, rfl⟩
      · rename_i hj; rw [hj]; simp only [Option.some.injEq, Prod.mk.injEq] at h; obtain ⟨rfl, rfl⟩ := h; exact ⟨rfl, rfl⟩
      · cases h
end Av
/- An evaluator of the intermediate form, for closed calls: calls of functions, rounds of loops. -/
namespace Av
open Go
variable [Glb] [Rls]

/-! ### results -/
def condParts (H : Heap) : List Av → Bool
  | [] => true
  | c :: r => (mine c || condA H c) && condParts (hputs H (part1 H c).2.2) r
def condFin (H : Heap) : Av → Bool
  | .agg cs => match datum H (.agg cs) with
    | some _ => condA H (.agg cs)
    | none => condParts H cs
  | .clo _ fs cs => condParts H fs && condParts (hputs H (parts1 H fs).2.2) cs
  | v => condA H v
def condFins (k : Bool) (H : Heap) : List Av → Bool
  | [] => true
  | c :: r => (k || condFin H c) && match fin1 k H c with
    | some (_, _, u) => condFins k (hputs H u) r
    | none => true
def chkOuts : List RI → St → Bool
  | [], _ => true
  | .tmp _ :: r, st => chkOuts r st
  | .cell a n :: r, st => chk (get st.tm) (get st.hp) (.ld n (.t a)) && chkOuts r st

theorem condParts_ok : ∀ {cs : List Av} {H : Heap}, condParts H cs = true → (parts1 H cs).1
  | [], _, _ => trivial
  | c :: r, H, h => by
    simp only [condParts, Bool.and_eq_true, Bool.or_eq_true] at h
    refine ⟨?_, condParts_ok h.2⟩
    unfold part1
    split
    · trivial
    · rename_i hm
      have hc := h.1.resolve_left hm
      split
      · rename_i p x u e; exact condA_ok e hc
      · trivial
theorem condFin_ok {H : Heap} {c v : Av} {p : Prop} {u : List (Nat × Obj)} (h : finF H c = some (p, v, u)) (hc : condFin H c = true) : p := by
  unfold finF at h
  split at h
  · cases h; trivial
  · cases h; trivial
  · split at h <;> cases h; trivial
  · split at h
    · cases h; trivial
    · split at h
      · rename_i e; cases h; exact condA_ok e hc
      · cases h
  · split at h
    · cases h; trivial
    · split at h
      · rename_i e; cases h; exact condA_ok e hc
      · cases h
  · split at h
    · cases h; trivial
    · split at h
      · rename_i e; cases h; exact condA_ok e hc
      · cases h
  · rename_i cs
    unfold condFin at hc
    split at h
    · rename_i e; cases h; simp only [e] at hc; exact condA_ok e hc
    · rename_i e
      simp only [Option.some.injEq, Prod.mk.injEq] at h
      simp only [e] at hc
      rw [← h.1]
      exact condParts_ok hc
  · rename_i f fs cs
    simp only [condFin, Bool.and_eq_true] at hc
    have h1 := condParts_ok hc.1
    have h2 := condParts_ok hc.2
    split at h
    rename_i p1 fs' u1 e1
    split at h
    rename_i q1 cs' u2 e2
    have f1 : (parts1 H fs).1 = p1 := by rw [e1]
    have f3 : (parts1 H fs).2.2 = u1 := by rw [e1]
    rw [f3] at h2
    have g1 : (parts1 (hputs H u1) cs).1 = q1 := by rw [e2]
    split at h
    · simp only [Option.some.injEq, Prod.mk.injEq] at h; rw [← h.1]; exact ⟨f1 ▸ h1, g1 ▸ h2⟩
    · simp only [Option.some.injEq, Prod.mk.injEq] at h; rw [← h.1]; exact ⟨f1 ▸ h1, g1 ▸ h2⟩
  · cases h
theorem condFins_ok {k : Bool} : ∀ {cs vs : List Av} {H : Heap} {p : Prop} {u : List (Nat × Obj)}, fins k H cs = some (p, vs, u) → condFins k H cs = true → p
  | [], vs, H, p, u, h, _ => by simp only [fins, Option.some.injEq, Prod.mk.injEq] at h; rw [← h.1]; trivial
  | c :: r, vs, H, p, u, h, hc => by
    simp only [fins] at h
    simp only [condFins, Bool.and_eq_true, Bool.or_eq_true] at hc
    cases e1 : fin1 k H c with
    | none => simp [e1] at h
    | some q =>
      obtain ⟨p1, x, u1⟩ := q
      simp only [e1] at h hc
      cases e2 : fins k (hputs H u1) r with
      | none => simp [e2] at h
      | some q2 =>
        obtain ⟨p2, xs', u2⟩ := q2
        simp only [e2, Option.some.injEq, Prod.mk.injEq] at h
        rw [← h.1]
        refine ⟨?_, condFins_ok e2 hc.2⟩
        cases k with
        | false => exact condFin_ok e1 (hc.1.resolve_left (by simp))
        | true =>
          have e1 : finK c = some (p1, x, u1) := e1
          cases c <;> simp [finK] at e1 <;> exact e1.1
theorem chkOuts_ok : ∀ {ris : List RI} {st : St} {p : Prop} {cs : List Av}, outs ris st = some (p, cs) → chkOuts ris st = true → p
  | [], st, p, cs, h, _ => by simp only [outs, Option.some.injEq, Prod.mk.injEq] at h; rw [← h.1]; trivial
  | .tmp t :: r, st, p, cs, h, hc => by
    simp only [outs] at h
    simp only [chkOuts] at hc
    split at h
    · rename_i e; cases h; exact chkOuts_ok e hc
    · cases h
  | .cell a n :: r, st, p, cs, h, hc => by
    simp only [outs] at h
    simp only [chkOuts, Bool.and_eq_true] at hc
    split at h
    · rename_i e1 e2; cases h; exact ⟨chk_ok e1 hc.1, chkOuts_ok e2 hc.2⟩
    · cases h

def evEnd (k : Bool) (ris : List RI) (st : St) : Option (Av × List (Nat × Obj)) := match chkOuts ris st with
  | false => none
  | true => match outs ris st with
    | none => none
    | some (_, cs) => match condFins k (get st.hp) cs with
      | false => none
      | true => match fins k (get st.hp) cs with
        | some (_, rs, u) => some (retV rs, puts st.hp u)
        | none => none

def D0b (i : Nat) : Bool := Nat.ble 1000 i

def evF (P : Program) (k : Bool) (call : CallF) (L : Nat) (f : Nat) (args : List Av) (T : List (Nat × Obj)) : Option (Av × List (Nat × Obj)) :=
  match P.funcs[f]? with
  | none => none
  | some fn => match fn.body with
    | none => none
    | some code => match fn.name == "runtime.NumGoroutine" with
      | true => none
      | false => match trCode P fn.ntmps code, allSome (fn.results.toList.map (trRes P)) with
        | some ic, some ris => match Nat.ble args.length fn.ntmps with
          | false => none
          | true => match evC call L D0b ic ⟨enum 0 args, T⟩ with
            | some (.normal, st) => evEnd k ris st
            | some (.ret, st) => evEnd k ris st
            | _ => none
        | _, _ => none

theorem trCode_strip {P : Program} {N : Nat} : ∀ (ic : Ic) (c : Code), trCode P N c = some ic → strip ic = ic := by
  intro ic
  induction ic with
  | dn a ts ih => intro c h; exact (trCode_inv h).elim
  | seq a b iha ihb => intro c h; obtain ⟨x, y, _, h1, h2⟩ := trCode_inv h; simp only [strip, iha x h1, ihb y h2]
  | ite c' a b iha ihb => intro c h; obtain ⟨_, x, y, _, _, h1, h2⟩ := trCode_inv h; simp only [strip, iha x h1, ihb y h2]
  | block id b ih => intro c h; obtain ⟨x, _, h1⟩ := trCode_inv h; simp only [strip, ih x h1]
  | loop b ih => intro c h; obtain ⟨x, _, h1⟩ := trCode_inv h; simp only [strip, ih x h1]
  | scp b ih => intro c h; obtain ⟨x, _, h1⟩ := trCode_inv h; simp only [strip, ih x h1]
  | rng f N' lid ps c1 c2 a b iha ihb => intro c h; obtain ⟨_, g, _, _, h1, h2, _⟩ := trCode_inv h; simp only [strip, iha c1 h1, ihb c2 h2]
  | _ => intro c h; rfl

theorem hputs_nodup : ∀ (l : List (Nat × Obj)) (H : Heap) (k : Nat), (keys l).Nodup → hputs H l k = match get l k with | some o => some o | none => H k
  | [], H, k, _ => rfl
  | (i, o) :: r, H, k, hn => by
    simp only [keys, List.map_cons, List.nodup_cons] at hn
    simp only [hputs, get]
    rw [hputs_nodup r _ k hn.2]
    by_cases h : i = k
    · subst h
      rw [if_pos rfl]
      have : get r i = none := by
        cases hg : get r i with
        | none => rfl
        | some o' => exact absurd (List.mem_map.2 ⟨_, get_mem r i o' hg, rfl⟩) hn.1
      rw [this]
      exact upd_same _ _ _
    · rw [if_neg h]
      split
      · rfl
      · exact upd_ne _ _ (Ne.symm h)

def nodupB : List Nat → Bool
  | [] => true
  | i :: r => !r.contains i && nodupB r
theorem nodupB_ok : ∀ {l : List Nat}, nodupB l = true → l.Nodup
  | [], _ => List.nodup_nil
  | i :: r, h => by
    simp only [nodupB, Bool.and_eq_true, Bool.not_eq_true'] at h
    exact List.nodup_cons.2 ⟨by simpa using h.1, nodupB_ok h.2⟩

/-- are these all the objects that there will be? -/
def endOK (T : List (Nat × Obj)) (v : Av) (ups : List (Nat × Obj)) : Bool :=
  nodupB (keys ups) && (T.all fun e => (keys ups).contains e.1) && inB (keys ups) v && (ups.all fun e => inBO (keys ups) e.2)

theorem endOK_ok {T ups : List (Nat × Obj)} {v : Av} (h : endOK T v ups = true) : hputs (get T) ups = get ups ∧ closed (hputs (get T) ups) ∧ inT (hputs (get T) ups) v ∧ ∀ e ∈ T, (get ups e.1).isSome = true := by
  simp only [endOK, Bool.and_eq_true, List.all_eq_true] at h
  obtain ⟨⟨⟨h1, h2⟩, h3⟩, h4⟩ := h
  have hT : ∀ e ∈ T, (get ups e.1).isSome = true := fun e he => get_keys.1 (h2 e he)
  have e1 : hputs (get T) ups = get ups := by
    funext k
    rw [hputs_nodup ups _ k (nodupB_ok h1)]
    cases hg : get ups k with
    | some o => rfl
    | none =>
      cases ht : get T k with
      | none => rfl
      | some o =>
        have := hT (k, o) (get_mem T k o ht)
        rw [hg] at this
        cases this
  have hG : ∀ i, (keys ups).contains i = true → (hputs (get T) ups i).isSome = true := fun i hi => by rw [e1]; exact get_keys.1 hi
  exact ⟨e1, fun i o hi => inBO_ok hG o (h4 (i, o) (get_mem ups i o (by rw [← e1]; exact hi))), inB_ok hG v h3, hT⟩

theorem evF_con {P : Program} {k : Bool} {call : CallF} {L f : Nat} {args : List Av} {T : List (Nat × Obj)} {v : Av} {fh : List (Nat × Obj)} {ko : List Nat} (hcall : CallSound P call) (hhas : CallHas P call) (h : evF P k call L f args T = some (v, fh))
    (hend : endOK T v (keeps fh ko) = true) : Con P f args T v (keeps fh ko) := by
  unfold evF at h
  split at h
  · cases h
  rename_i fn hf
  split at h
  · cases h
  rename_i code hb
  split at h
  · cases h
  rename_i hname
  split at h
  case h_2 => cases h
  rename_i ic ris htr hres
  split at h
  · cases h
  rename_i hn
  obtain ⟨g1, g2, g3, g4⟩ := endOK_ok hend
  have main : ∀ e st, evC call L D0b ic ⟨enum 0 args, T⟩ = some (e, st) → (e = .normal ∨ e = .ret) → evEnd k ris st = some (v, fh) → Con P f args T v (keeps fh ko) := by
    intro e st hev he hen
    refine Con.of_code (k := k) hf hb hname (by rw [trCode_strip ic code htr]; exact htr) hres (Nat.le_of_ble_eq_true hn) g2 g3 (wpc_mono ic _ ?_ (evC_ok (D := D0) (fun i hi => Nat.ble_eq_true_of_le hi) hcall hhas ic _ _ _ hev))
    rintro e' s ⟨rfl, rfl⟩
    refine ⟨he, ?_⟩
    unfold evEnd at hen
    split at hen
    · cases hen
    rename_i hco
    split at hen
    · cases hen
    rename_i p cs ho
    split at hen
    · cases hen
    rename_i hcf
    split at hen
    case h_2 => cases hen
    rename_i q rs u hfi
    simp only [Option.some.injEq, Prod.mk.injEq] at hen
    obtain ⟨rfl, rfl⟩ := hen
    rw [ho]
    refine ⟨chkOuts_ok ho hco, ?_⟩
    rw [hfi]
    refine ⟨condFins_ok hfi hcf, rfl, ?_⟩
    have hall : ∀ k, (get (keeps (puts s.hp u) ko) k).isSome = true → hputs (get s.hp) u k = hputs (get T) (keeps (puts s.hp u) ko) k := by
      intro k hk
      rw [g1, get_keeps, ← get_puts]
      rw [get_keeps] at hk
      split
      · rfl
      · rename_i hn; rw [if_neg hn] at hk; cases hk
    have hmem : ∀ e ∈ T ++ keeps (puts s.hp u) ko, (get (keeps (puts s.hp u) ko) e.1).isSome = true := by
      intro e he
      rcases List.mem_append.1 he with he | he
      · exact g4 e he
      · exact get_keys.1 (by simp only [keys, List.contains_eq_mem, decide_eq_true_eq]; exact List.mem_map.2 ⟨e, he, rfl⟩)
    generalize T ++ keeps (puts s.hp u) ko = l at hmem
    induction l with
    | nil => trivial
    | cons e r ih => exact ⟨hall e.1 (hmem e List.mem_cons_self), ih fun e' he' => hmem e' (List.mem_cons_of_mem _ he')⟩
  split at h
  · rename_i st hev; exact main _ st hev (.inl rfl) h
  · rename_i st hev; exact main _ st hev (.inr rfl) h
  · cases h

/-! ### renaming there and back -/
theorem Av.ren_ren (σ ρ : Nat → Nat) (c : Av) : (c.ren σ).ren ρ = c.ren (fun i => ρ (σ i)) :=
  Av.rec (motive_1 := fun c => (c.ren σ).ren ρ = c.ren (fun i => ρ (σ i))) (motive_2 := fun cs => renL ρ (renL σ cs) = renL (fun i => ρ (σ i)) cs) (fun _ => rfl) (fun _ _ => rfl) (fun _ _ => rfl) (fun _ _ _ _ => rfl) (fun _ _ _ _ => rfl)
    (fun cs ih => by simp only [Av.ren, ih]) (fun cs ih => by simp only [Av.ren, ih]) (fun f a b iha ihb => by simp only [Av.ren, iha, ihb]) (fun _ => rfl) rfl rfl rfl (fun c r ihc ihr => by simp only [renL, ihc, ihr]) c
theorem renL_ren (σ ρ : Nat → Nat) (cs : List Av) : renL ρ (renL σ cs) = renL (fun i => ρ (σ i)) cs := by
  simp only [renL_map, List.map_map]
  exact List.map_congr_left fun c _ => Av.ren_ren σ ρ c
theorem renT_ren (σ ρ : Nat → Nat) : ∀ l : List (Nat × Av), renT ρ (renT σ l) = renT (fun i => ρ (σ i)) l
  | [] => rfl
  | (t, c) :: r => by simp only [renT, Av.ren_ren, renT_ren σ ρ r]
theorem Obj.ren_ren (σ ρ : Nat → Nat) (o : Obj) : (o.ren σ).ren ρ = o.ren (fun i => ρ (σ i)) := by
  cases o with
  | box cs => simp only [Obj.ren, renL_ren]
  | lp l => simp only [Obj.ren, renT_ren]
  | _ => rfl
/-- numbers that stay -/
theorem Av.ren_fix {ks : List Nat} {σ : Nat → Nat} (hσ : ∀ i, ks.contains i = true → σ i = i) (c : Av) : inB ks c = true → c.ren σ = c :=
  Av.rec (motive_1 := fun c => inB ks c = true → c.ren σ = c) (motive_2 := fun cs => inBL ks cs = true → renL σ cs = cs) (fun _ _ => rfl) (fun i _ h => by simp only [Av.ren, hσ i h]) (fun i _ h => by simp only [Av.ren, hσ i h])
    (fun i _ _ _ h => by simp only [Av.ren, hσ i h]) (fun i _ _ _ h => by simp only [Av.ren, hσ i h]) (fun cs ih h => by simp only [Av.ren, ih h]) (fun cs ih h => by simp only [Av.ren, ih h])
    (fun f a b iha ihb h => by simp only [inB, Bool.and_eq_true] at h; simp only [Av.ren, iha h.1, ihb h.2]) (fun i h => by simp only [Av.ren, hσ i h]) (fun _ => rfl) (fun _ => rfl) (fun _ => rfl)
    (fun c r ihc ihr h => by simp only [inBL, Bool.and_eq_true] at h; simp only [renL, ihc h.1, ihr h.2]) c
theorem renL_fix {ks : List Nat} {σ : Nat → Nat} (hσ : ∀ i, ks.contains i = true → σ i = i) : ∀ cs : List Av, inBL ks cs = true → renL σ cs = cs
  | [], _ => rfl
  | c :: r, h => by simp only [inBL, Bool.and_eq_true] at h; simp only [renL, Av.ren_fix hσ c h.1, renL_fix hσ r h.2]
theorem renT_fix {ks : List Nat} {σ : Nat → Nat} (hσ : ∀ i, ks.contains i = true → σ i = i) : ∀ cs : List (Nat × Av), inBT ks cs = true → renT σ cs = cs
  | [], _ => rfl
  | (t, c) :: r, h => by simp only [inBT, Bool.and_eq_true] at h; simp only [renT, Av.ren_fix hσ c h.1, renT_fix hσ r h.2]
theorem Obj.ren_fix {ks : List Nat} {σ : Nat → Nat} (hσ : ∀ i, ks.contains i = true → σ i = i) (o : Obj) (h : inBO ks o = true) : o.ren σ = o := by
  cases o with
  | box cs => simp only [Obj.ren, renL_fix hσ cs h]
  | lp l => simp only [Obj.ren, renT_fix hσ l.tm h]
  | _ => rfl

/-- objects under other numbers -/
def shift (σ : Nat → Nat) : List (Nat × Obj) → List (Nat × Obj)
  | [] => []
  | e :: r => (σ e.1, e.2.ren σ) :: shift σ r
theorem shift_map (σ : Nat → Nat) : ∀ l : List (Nat × Obj), shift σ l = l.map fun e => (σ e.1, e.2.ren σ)
  | [] => rfl
  | e :: r => by simp only [shift, List.map_cons, shift_map σ r]
theorem keys_shift (σ : Nat → Nat) (l : List (Nat × Obj)) : keys (shift σ l) = (keys l).map σ := by
  simp only [keys, shift_map, List.map_map]; rfl

def injB (ρ : Nat → Nat) (ks : List Nat) : Bool := ks.all fun i => ks.all fun j => !(ρ i == ρ j) || i == j

/-! ### calls -/
def maxK : List Nat → Nat
  | [] => 0
  | i :: r => Nat.max i (maxK r)
/-- the caller's number of an object: of one that was handed, what it was; of a new one, one that is free -/
def backN (M : Nat) (l : List (Nat × Nat)) (i : Nat) : Nat := if Nat.ble 1000 i then i - 1000 else match get l i with
  | some j => j
  | none => M + i
/-- numbers that are free, from above -/
def freeN (used : List Nat) : Nat → List Nat → List (Nat × Nat)
  | 0, _ => []
  | _, [] => []
  | n + 1, k :: r => if used.contains n then freeN used n (k :: r) else (k, n) :: freeN used n r

def nones (hp : List (Nat × Obj)) : List Nat → Bool
  | [] => true
  | i :: r => (match get hp i with | some _ => false | none => true) && nones hp r

/-- a call of a function that is handed objects, or gives back new ones -/
def callG (P : Program) (kp : Bool) (call : CallF) (L : Nat) (f : Nat) (vs : List Av) (hp : List (Nat × Obj)) : Option (Av × List (Nat × Obj) × List Nat × List Nat) :=
  let T0 := keeps hp (reach hp fuelR (idsAL vs) [])
  match evF P kp call L f (renL (· + 1000) vs) (shift (· + 1000) T0) with
  | none => none
  | some (v, fh) =>
    let ups := keeps fh (reach fh fuelR (idsA v ++ (keys fh).filter D0b) [])
    let M := 1000 * (maxK (keys hp) / 1000 + 1)
    let nw := (keys ups).filter fun k => !(keys (shift (· + 1000) T0)).contains k
    let nm := freeN (keys hp) 1000 (nw.filter fun k => !D0b k)
    if nodupB (keys T0) && inBL (keys T0) vs && (T0.all fun e => inBO (keys T0) e.2) && endOK (shift (· + 1000) T0) v ups && injB (backN M nm) (keys ups) && nones hp (nw.map (backN M nm)) then
      some (v.ren (backN M nm), puts hp (shift (backN M nm) ups), keys T0 ++ nw.map (backN M nm), (keys ups).map (backN M nm))
    else none

def pureB : Av → Bool
  | .d _ => true
  | .tup cs => match allD cs with | some _ => true | none => false
  | _ => false
theorem pureB_ok {v : Av} (h : pureB v = true) : pureR v := by
  unfold pureB at h
  split at h
  · trivial
  · split at h
    · rename_i cs ds hd
      have := allD_ok hd
      subst this
      intro c hc
      obtain ⟨x, _, rfl⟩ := List.mem_map.1 hc
      exact ⟨x, rfl⟩
    · cases h
  · cases h

/-- a round of a loop over a function -/
def callY (P : Program) (call : CallF) (L : Nat) (vs : List Av) (hp : List (Nat × Obj)) : Option (Av × List (Nat × Obj) × List Nat × List Nat) :=
  match vs with
  | .mp i :: args =>
    let b := 1000 * (i / 1000)
    let T0 := keeps hp (reach hp fuelR [i] [])
    let T := shift (· - b) T0
    match get T (i - b) with
    | some (.lp l) => match l.s with
      | .ready => match trCode P l.N l.asg, trCode P l.N l.body with
        | some asg, some body =>
          if args.length == l.ps.size && (l.ps.toList.all fun p => decide (p < l.N)) && inBL (keys T0) args && nodupB (keys T0) && (T0.all fun e => inBO (keys T0) e.2 && Nat.ble b e.1) then
            match evC call L (fun i => (keys T).contains i) asg ⟨putArgs l.tm l.ps.toList (renL (· - b) args), T⟩ with
            | some (.normal, s) => match get s.hp (i - b) with
              | some (.lp l1) => match l1.s with
                | .ready => match evC call L (fun i => (keys T).contains i) body ⟨s.tm, put s.hp (i - b) (.lp { l1 with s := .busy })⟩ with
                  | some (e, s2) => match get s2.hp (i - b) with
                    | some (.lp l2) => match roundEnd e l2 with
                      | some (v, l3) =>
                        let hp3 := put s2.hp (i - b) (.lp l3)
                        let ups := keeps hp3 (reach hp3 fuelR (keys T) [])
                        let nw := (keys ups).filter fun k => !(keys T).contains k
                        if keepOK (fun i => (keys T).contains i) [] hp3 ups && endOK T v ups && injB (· + b) (keys ups) && nones hp (nw.map (· + b)) then
                          some (v, puts hp (shift (· + b) ups), keys T0 ++ nw.map (· + b), (keys ups).map (· + b))
                        else none
                      | none => none
                    | _ => none
                  | none => none
                | _ => none
              | _ => none
            | _ => none
          else none
        | _, _ => none
      | _ => none
    | _ => none
  | _ => none

/-- what is known of functions without running them -/
abbrev Ext := Nat → List Dat → Option Av
def ExtOK (P : Program) (X : Ext) : Prop := ∀ f ds v, X f ds = some v → CallOK P (.fn f) (ds.map .d) [] v []

def callF (P : Program) (X : Ext) (K : Nat → Bool) (L : Nat) : Nat → CallF
  | 0, _, _, _ => none
  | n + 1, c, vs, hp => match c with
    | .fn f => match allD vs with
      | some ds => match X f ds with
        | some v => some (v, hp, [], [])
        | none => match K f with
          | true => callG P true (callF P X K L n) L f vs hp
          | false => match evF P false (callF P X K L n) L f vs [] with
            | some (v, _) => match pureB v with
              | true => some (v, hp, [], [])
              | false => callG P false (callF P X K L n) L f vs hp
            | none => none
      | none => callG P (K f) (callF P X K L n) L f vs hp
    | .yld => callY P (callF P X K L n) L vs hp

section
variable {P : Program} {call : CallF} {L : Nat}

theorem tgets_of {H : Heap} : ∀ {T : List (Nat × Option Obj)}, (∀ e ∈ T, H e.1 = e.2) → tgets H T
  | [], _ => trivial
  | e :: r, h => ⟨h e List.mem_cons_self, tgets_of fun e' he' => h e' (List.mem_cons_of_mem _ he')⟩

theorem get_of_mem {α : Type} : ∀ {l : List (Nat × α)} {k : Nat} {o : α}, (keys l).Nodup → (k, o) ∈ l → get l k = some o
  | (i, x) :: r, k, o, hn, h => by
    simp only [keys, List.map_cons, List.nodup_cons] at hn
    simp only [get]
    rcases List.mem_cons.1 h with h | h
    · cases h; rw [if_pos rfl]
    · have : i ≠ k := fun e => hn.1 (e ▸ List.mem_map.2 ⟨_, h, rfl⟩)
      rw [if_neg this]
      exact get_of_mem hn.2 h

theorem get_shift {σ : Nat → Nat} : ∀ {l : List (Nat × Obj)} {k : Nat}, (get (shift σ l) k).isSome = true → ∃ i, (get l i).isSome = true ∧ σ i = k
  | [], k, h => by cases h
  | (i, o) :: r, k, h => by
    simp only [shift, get] at h
    split at h
    · rename_i e; exact ⟨i, by simp [get], e⟩
    · obtain ⟨j, h1, h2⟩ := get_shift h
      refine ⟨j, ?_, h2⟩
      simp only [get]
      split
      · rfl
      · exact h1

theorem nones_ok {hp : List (Nat × Obj)} : ∀ {l : List Nat}, nones hp l = true → ∀ i ∈ l, get hp i = none
  | [], _, i, h => by cases h
  | j :: r, h, i, hi => by
    simp only [nones, Bool.and_eq_true] at h
    rcases List.mem_cons.1 hi with rfl | hi
    · have := h.1
      split at this
      · cases this
      · assumption
    · exact nones_ok h.2 i hi

theorem injB_ok {ρ : Nat → Nat} {ks : List Nat} (h : injB ρ ks = true) (i j : Nat) (hi : ks.contains i = true) (hj : ks.contains j = true) (e : ρ i = ρ j) : i = j := by
  simp only [injB, List.all_eq_true, Bool.or_eq_true, Bool.not_eq_true', beq_eq_false_iff_ne, beq_iff_eq] at h
  rcases h i (by simpa using hi) j (by simpa using hj) with h | h
  · exact absurd e h
  · exact h

theorem keeps_get {hp : List (Nat × Obj)} {ks : List Nat} {k : Nat} {o : Obj} (hn : nodupB (keys (keeps hp ks)) = true) (h : (k, o) ∈ keeps hp ks) : get hp k = some o := by
  have := get_of_mem (nodupB_ok hn) h
  rw [get_keeps] at this
  split at this
  · exact this
  · cases this

theorem callG_ok {kp : Bool} (hcall : CallSound P call) (hhas : CallHas P call) {f : Nat} {vs : List Av} {hp hp' : List (Nat × Obj)} {v : Av} {tk uk : List Nat} (h : callG P kp call L f vs hp = some (v, hp', tk, uk)) :
    Has P f ∧ ∃ T ups, CallOK P (.fn f) vs T v ups ∧ tgets (get hp) T ∧ (∀ i, get hp' i = hputs (get hp) ups i) ∧ T.map (·.1) = tk ∧ ups.map (·.1) = uk := by
  unfold callG at h
  dsimp only at h
  split at h
  · cases h
  rename_i v0 fh hev
  split at h
  case isFalse => cases h
  rename_i hc
  simp only [Bool.and_eq_true] at hc
  obtain ⟨⟨⟨⟨⟨c1, c2⟩, c3⟩, c4⟩, c5⟩, c6⟩ := hc
  simp only [Option.some.injEq, Prod.mk.injEq] at h
  obtain ⟨rfl, rfl, rfl, rfl⟩ := h
  generalize hT0 : keeps hp (reach hp fuelR (idsAL vs) []) = T0 at *
  generalize hM : 1000 * (maxK (keys hp) / 1000 + 1) = M at *
  generalize hups : keeps fh (reach fh fuelR (idsA v0 ++ (keys fh).filter D0b) []) = ups at *
  generalize hnw : ((keys ups).filter fun k => !(keys (shift (· + 1000) T0)).contains k) = nw at *
  have hcon : Con P f (renL (· + 1000) vs) (shift (· + 1000) T0) v0 ups := by
    rw [← hups]
    exact evF_con hcall hhas hev (by rw [hups]; exact c4)
  obtain ⟨g1, g2, g3, g4⟩ := endOK_ok c4
  generalize hnm : freeN (keys hp) 1000 (nw.filter fun k => !D0b k) = nm at *
  have hback : ∀ i, backN M nm (i + 1000) = i := by intro i; simp [backN, Nat.ble_eq]
  have hbig : ∀ i, (get (shift (· + 1000) T0) i).isSome = true → 1000 ≤ i := by
    intro i hi
    obtain ⟨j, _, rfl⟩ := get_shift hi
    omega
  have hG0 : ∀ i, (keys T0).contains i = true → (get (shift (· + 1000) T0) (i + 1000)).isSome = true := by
    intro i hi
    rw [← get_keys, keys_shift]
    simp only [List.contains_eq_mem, decide_eq_true_eq] at hi ⊢
    exact List.mem_map.2 ⟨i, hi, rfl⟩
  have hinr : ∀ c : Av, inB (keys T0) c = true → idsIn (get (shift (· + 1000) T0)) (c.ren (· + 1000)) := fun c =>
    Av.rec (motive_1 := fun c => inB (keys T0) c = true → idsIn (get (shift (· + 1000) T0)) (c.ren (· + 1000))) (motive_2 := fun cs => inBL (keys T0) cs = true → idsInL (get (shift (· + 1000) T0)) (renL (· + 1000) cs))
      (fun _ _ => trivial) (fun i _ h => hG0 i h) (fun i _ h => hG0 i h) (fun i _ _ _ h => hG0 i h) (fun i _ _ _ h => hG0 i h) (fun cs ih h => ih h) (fun cs ih h => ih h)
      (fun f a b iha ihb h => by simp only [inB, Bool.and_eq_true] at h; exact ⟨iha h.1, ihb h.2⟩) (fun i h => hG0 i h) (fun _ => trivial) (fun _ => trivial) (fun _ => trivial)
      (fun c r ihc ihr h => by simp only [inBL, Bool.and_eq_true] at h; exact ⟨ihc h.1, ihr h.2⟩) c
  have hinrL : ∀ cs : List Av, inBL (keys T0) cs = true → idsInL (get (shift (· + 1000) T0)) (renL (· + 1000) cs) := by
    intro cs
    induction cs with
    | nil => intro _; trivial
    | cons c r ih => intro h; simp only [inBL, Bool.and_eq_true] at h; exact ⟨hinr c h.1, ih h.2⟩
  have hinrT : ∀ cs : List (Nat × Av), inBT (keys T0) cs = true → idsInT (get (shift (· + 1000) T0)) (renT (· + 1000) cs) := by
    intro cs
    induction cs with
    | nil => intro _; trivial
    | cons c r ih => obtain ⟨t, c⟩ := c; intro h; simp only [inBT, Bool.and_eq_true] at h; exact ⟨hinr c h.1, ih h.2⟩
  have hclT : closed (get (shift (· + 1000) T0)) := by
    intro i o hi
    have hm := get_mem _ i o hi
    rw [shift_map] at hm
    obtain ⟨e, he, hee⟩ := List.mem_map.1 hm
    simp only [Prod.mk.injEq] at hee
    rw [← hee.2]
    have := List.all_eq_true.1 c3 e he
    cases ho : e.2 with
    | box cs => rw [ho] at this; exact hinrL cs this
    | lp l => rw [ho] at this; exact hinrT l.tm this
    | _ => trivial
  have hdom : ∀ i, (hputs (get (shift (· + 1000) T0)) ups i).isSome = true → (keys ups).contains i = true := by intro i hi; rw [g1] at hi; exact get_keys.2 hi
  have hcok := hcon.call (backN M nm) hbig (fun i j hi hj e => injB_ok c5 i j (hdom i hi) (hdom j hj) e)
    (by intro c hc; exact idsInL_mem (hinrL vs c2) c hc) hclT nw
    (by
      intro e he
      by_cases hk : (keys (shift (· + 1000) T0)).contains e.1 = true
      · exact .inl (get_keys.1 hk)
      · refine .inr ?_
        rw [← hnw]
        simp only [List.mem_filter]
        exact ⟨List.mem_map.2 ⟨e, he, rfl⟩, by simpa using hk⟩) g2 g3
  have hargs : (renL (· + 1000) vs).map (Av.ren (backN M nm)) = vs := by
    rw [← renL_map, renL_ren]
    have : (fun i => backN M nm (i + 1000)) = id := funext hback
    rw [this, renL_id]
  rw [hargs] at hcok
  refine ⟨hcon.1, _, _, hcok, ?_, ?_, ?_, ?_⟩
  · refine tgets_of ?_
    intro e he
    rcases List.mem_append.1 he with he | he
    · obtain ⟨e1, h1, rfl⟩ := List.mem_map.1 he
      rw [shift_map] at h1
      obtain ⟨e0, h0, rfl⟩ := List.mem_map.1 h1
      simp only [hback]
      rw [Obj.ren_ren]
      have : (fun i => backN M nm (i + 1000)) = id := funext hback
      rw [this, Obj.ren_id]
      rw [← hT0] at h0 c1
      exact keeps_get c1 h0
    · obtain ⟨i, hi, rfl⟩ := List.mem_map.1 he
      exact nones_ok c6 _ (List.mem_map.2 ⟨i, hi, rfl⟩)
  · intro i
    rw [get_puts, shift_map]
  · have hk : ∀ l : List (Nat × Obj), (l.map fun e => backN M nm (e.1 + 1000)) = l.map (·.1) := fun l => List.map_congr_left fun e _ => hback e.1
    simp only [List.map_append, List.map_map, shift_map, Function.comp_def, hk, keys]
  · simp only [List.map_map, keys]
    rfl

theorem trCode_bounds (l : Lp) (h : (l.ps.toList.all fun p => decide (p < l.N)) = true) : ∀ p ∈ l.ps.toList, p < l.N := by
  intro p hp
  simpa using List.all_eq_true.1 h p hp

theorem callY_ok (hcall : CallSound P call) (hhas : CallHas P call) {vs : List Av} {hp hp' : List (Nat × Obj)} {v : Av} {tk uk : List Nat} (h : callY P call L vs hp = some (v, hp', tk, uk)) :
    ∃ T ups, CallOK P .yld vs T v ups ∧ tgets (get hp) T ∧ (∀ i, get hp' i = hputs (get hp) ups i) ∧ T.map (·.1) = tk ∧ ups.map (·.1) = uk := by
  unfold callY at h
  split at h
  case h_2 => cases h
  rename_i i args
  dsimp only at h
  generalize hb : 1000 * (i / 1000) = b at *
  have hbi : b ≤ i := by omega
  generalize hT0 : keeps hp (reach hp fuelR [i] []) = T0 at *
  split at h
  case h_2 => cases h
  rename_i l hl
  split at h
  case h_2 => cases h
  rename_i hready
  split at h
  case h_2 => cases h
  rename_i asg body h1 h2
  split at h
  case isFalse => cases h
  rename_i hc
  simp only [Bool.and_eq_true, beq_iff_eq] at hc
  obtain ⟨⟨⟨⟨c1, c2⟩, c3⟩, c4⟩, c5⟩ := hc
  split at h
  case h_2 => cases h
  rename_i s hs
  split at h
  case h_2 => cases h
  rename_i l1 hl1
  split at h
  case h_2 => cases h
  rename_i hr1
  split at h
  case h_2 => cases h
  rename_i e s2 hs2
  split at h
  case h_2 => cases h
  rename_i l2 hl2
  split at h
  case h_2 => cases h
  rename_i v0 l3 hend
  split at h
  case isFalse => cases h
  rename_i hk
  simp only [Bool.and_eq_true] at hk
  obtain ⟨⟨⟨k1, k2⟩, k3⟩, k4⟩ := hk
  simp only [Option.some.injEq, Prod.mk.injEq] at h
  obtain ⟨rfl, rfl, rfl, rfl⟩ := h
  generalize hT : shift (· - b) T0 = T at *
  generalize hhp3 : put s2.hp (i - b) (.lp l3) = hp3 at *
  generalize hks : reach hp3 fuelR (keys T) [] = ks at *
  generalize hups : keeps hp3 ks = ups at *
  generalize hnw : ((keys ups).filter fun k => !(keys T).contains k) = nw at *
  obtain ⟨g1, g2, g3, g4⟩ := endOK_ok k2
  have hDb : ∀ j, (get T j).isSome = true → (keys T).contains j = true := fun j hj => get_keys.2 hj
  have hge : ∀ j, (keys T0).contains j = true → b ≤ j := by
    intro j hj
    obtain ⟨o, ho⟩ := Option.isSome_iff_exists.1 (get_keys.1 hj)
    have := List.all_eq_true.1 c5 (j, o) (get_mem T0 j o ho)
    simp only [Bool.and_eq_true] at this
    exact Nat.le_of_ble_eq_true this.2
  have hfix : ∀ j, (keys T0).contains j = true → (fun j => j - b + b) j = j := fun j hj => by have := hge j hj; simp only; omega
  have hrcon : RCon P (i - b) (renL (· - b) args) T v0 ups := by
    refine RCon.of_code hl hready (by rw [trCode_strip asg _ h1]; exact h1) (by rw [trCode_strip body _ h2]; exact h2) (by rw [renL_map, List.length_map]; exact c1) (trCode_bounds l c2) g2 ?_
    refine wpc_mono asg _ ?_ (evC_ok (D := fun i => (get T i).isSome = true) hDb hcall hhas asg _ _ _ hs)
    rintro e' s' ⟨rfl, rfl⟩
    refine ⟨rfl, l1, hl1, hr1, wpc_mono body _ ?_ (evC_ok (D := fun i => (get T i).isSome = true) hDb hcall hhas body _ _ _ hs2)⟩
    rintro e' s' ⟨rfl, rfl⟩
    refine ⟨l2, l3, hl2, hend, ⟨[], ups⟩, ?_, fun j o ho => by rw [g1] at ho; exact ho⟩
    rw [hhp3, ← hups]
    exact keepOK_wk hDb (fun t v ht => by cases ht) (by rw [hups]; exact k1)
  have hG0 : ∀ j, (keys T0).contains j = true → (get T (j - b)).isSome = true := by
    intro j hj
    rw [← get_keys, ← hT, keys_shift]
    simp only [List.contains_eq_mem, decide_eq_true_eq] at hj ⊢
    exact List.mem_map.2 ⟨j, hj, rfl⟩
  have hinr : ∀ c : Av, inB (keys T0) c = true → idsIn (get T) (c.ren (· - b)) := fun c =>
    Av.rec (motive_1 := fun c => inB (keys T0) c = true → idsIn (get T) (c.ren (· - b))) (motive_2 := fun cs => inBL (keys T0) cs = true → idsInL (get T) (renL (· - b) cs))
      (fun _ _ => trivial) (fun i _ h => hG0 i h) (fun i _ h => hG0 i h) (fun i _ _ _ h => hG0 i h) (fun i _ _ _ h => hG0 i h) (fun cs ih h => ih h) (fun cs ih h => ih h)
      (fun f a b iha ihb h => by simp only [inB, Bool.and_eq_true] at h; exact ⟨iha h.1, ihb h.2⟩) (fun i h => hG0 i h) (fun _ => trivial) (fun _ => trivial) (fun _ => trivial)
      (fun c r ihc ihr h => by simp only [inBL, Bool.and_eq_true] at h; exact ⟨ihc h.1, ihr h.2⟩) c
  have hinrL : ∀ cs : List Av, inBL (keys T0) cs = true → idsInL (get T) (renL (· - b) cs) := by
    intro cs
    induction cs with
    | nil => intro _; trivial
    | cons c r ih => intro h; simp only [inBL, Bool.and_eq_true] at h; exact ⟨hinr c h.1, ih h.2⟩
  have hinrT : ∀ cs : List (Nat × Av), inBT (keys T0) cs = true → idsInT (get T) (renT (· - b) cs) := by
    intro cs
    induction cs with
    | nil => intro _; trivial
    | cons c r ih => obtain ⟨t, c⟩ := c; intro h; simp only [inBT, Bool.and_eq_true] at h; exact ⟨hinr c h.1, ih h.2⟩
  have hclT : closed (get T) := by
    intro j o hj
    have hm := get_mem _ j o hj
    rw [← hT, shift_map] at hm
    obtain ⟨e, he, hee⟩ := List.mem_map.1 hm
    simp only [Prod.mk.injEq] at hee
    rw [← hee.2]
    have := List.all_eq_true.1 c5 e he
    simp only [Bool.and_eq_true] at this
    have := this.1
    cases ho : e.2 with
    | box cs => rw [ho] at this; exact hinrL cs this
    | lp l => rw [ho] at this; exact hinrT l.tm this
    | _ => trivial
  have hdom : ∀ j, (hputs (get T) ups j).isSome = true → (keys ups).contains j = true := by intro j hj; rw [g1] at hj; exact get_keys.2 hj
  have hcok := hrcon.call (· + b) ⟨l, hl⟩ (fun i j hi hj e => injB_ok k3 i j (hdom i hi) (hdom j hj) e) (by intro c hc; exact idsInL_mem (hinrL args c3) c hc) hclT nw
    (by
      intro e he
      by_cases hk : (keys T).contains e.1 = true
      · exact .inl (get_keys.1 hk)
      · refine .inr ?_
        rw [← hnw]
        simp only [List.mem_filter]
        exact ⟨List.mem_map.2 ⟨e, he, rfl⟩, by simpa using hk⟩) g2 g3
  have hargs : (renL (· - b) args).map (Av.ren (· + b)) = args := by
    rw [← renL_map, renL_ren]
    exact renL_fix hfix args c3
  have hib : i - b + b = i := by omega
  have hvr : v0.ren (· + b) = v0 := by
    unfold roundEnd at hend
    split at hend <;> first | (cases hend; done) | (simp only [Option.some.injEq, Prod.mk.injEq] at hend; rw [← hend.1]; rfl)
  rw [hargs, hvr] at hcok
  simp only [hib] at hcok
  refine ⟨_, _, hcok, ?_, ?_, ?_, ?_⟩
  · refine tgets_of ?_
    intro e he
    rcases List.mem_append.1 he with he | he
    · obtain ⟨e1, h1, rfl⟩ := List.mem_map.1 he
      rw [← hT, shift_map] at h1
      obtain ⟨e0, h0, rfl⟩ := List.mem_map.1 h1
      have hin := List.all_eq_true.1 c5 e0 h0
      simp only [Bool.and_eq_true] at hin
      have hble := Nat.le_of_ble_eq_true hin.2
      have e2 : e0.1 - b + b = e0.1 := by omega
      simp only [e2]
      rw [Obj.ren_ren, Obj.ren_fix hfix e0.2 hin.1]
      rw [← hT0] at h0 c4
      exact keeps_get c4 h0
    · obtain ⟨j, hj, rfl⟩ := List.mem_map.1 he
      exact nones_ok k4 _ (List.mem_map.2 ⟨j, hj, rfl⟩)
  · intro j
    rw [get_puts, shift_map]
  · have hkk : (T.map fun e => e.1 + b) = keys T0 := by
      rw [← hT, shift_map, List.map_map]
      simp only [keys]
      refine List.map_congr_left fun e he => ?_
      have hin := List.all_eq_true.1 c5 e he
      simp only [Bool.and_eq_true] at hin
      have hble := Nat.le_of_ble_eq_true hin.2
      simp only [Function.comp]
      omega
    simp only [List.map_append, List.map_map, Function.comp_def, hkk]
  · simp only [List.map_map, keys]
    rfl

theorem keeps_nil {α : Type} : ∀ l : List (Nat × α), keeps l [] = []
  | [] => rfl
  | e :: r => by simp [keeps, keeps_nil r]

theorem callF_ok {X : Ext} {K : Nat → Bool} (hX : ExtOK P X) : ∀ n, CallSound P (callF P X K L n) ∧ CallHas P (callF P X K L n)
  | 0 => ⟨(by intro c vs hp v hp' tk uk h; cases h), (by intro g vs hp r h; cases h)⟩
  | n + 1 => by
    obtain ⟨i1, i2⟩ := callF_ok hX n
    constructor
    · intro c vs hp v hp' tk uk h
      simp only [callF] at h
      split at h
      · rename_i f
        split at h
        · rename_i ds hds
          have := allD_ok hds
          subst this
          split at h
          · rename_i d hd
            simp only [Option.some.injEq, Prod.mk.injEq] at h
            obtain ⟨rfl, rfl, rfl, rfl⟩ := h
            exact ⟨[], [], hX f ds d hd, trivial, fun _ => rfl, rfl, rfl⟩
          · split at h
            · exact (callG_ok i1 i2 h).2
            split at h
            · rename_i v0 fh hev
              split at h
              · rename_i hpure
                simp only [Option.some.injEq, Prod.mk.injEq] at h
                obtain ⟨rfl, rfl, rfl, rfl⟩ := h
                have hend : endOK [] v0 (keeps fh []) = true := by
                  rw [keeps_nil]
                  simp only [endOK, keys, List.map_nil, nodupB, List.all_nil, Bool.and_self, Bool.true_and, Bool.and_true]
                  have hp := pureB_ok hpure
                  cases v0 with
                  | d x => rfl
                  | tup cs =>
                    show inBL [] cs = true
                    have hv' : ∀ c ∈ cs, ∃ x, c = .d x := hp
                    clear hp hpure hev
                    induction cs with
                    | nil => rfl
                    | cons c r ih =>
                      obtain ⟨x, rfl⟩ := hv' c List.mem_cons_self
                      simp only [inBL, inB, Bool.true_and]
                      exact ih fun c hc => hv' c (List.mem_cons_of_mem _ hc)
                  | _ => exact hp.elim
                have hcon := evF_con (ko := []) i1 i2 hev hend
                rw [keeps_nil] at hcon
                exact ⟨[], [], PCon.call hcon (pureB_ok hpure), trivial, fun _ => rfl, rfl, rfl⟩
              · exact (callG_ok i1 i2 h).2
            · cases h
        · exact (callG_ok i1 i2 h).2
      · exact callY_ok i1 i2 h
    · intro g vs hp r h hids
      simp only [callF] at h
      split at h
      · rename_i ds hds
        have := allD_ok hds
        subst this
        obtain ⟨i, hi, _⟩ := hids
        exfalso
        have : ∀ ds : List Dat, idsAL (ds.map Av.d) = [] := by
          intro ds
          induction ds with
          | nil => rfl
          | cons d r ih => simp [idsAL, idsA, ih]
        rw [this] at hi
        cases hi
      · obtain ⟨v, hp', tk, uk⟩ := r
        exact (callG_ok i1 i2 h).1

/-- what the evaluator finds of a call with data -/
theorem ev_pcon {X : Ext} {K : Nat → Bool} (hX : ExtOK P X) {n f : Nat} {ds : List Dat} {v : Av} {fh : List (Nat × Obj)} (h : evF P false (callF P X K L n) L f (ds.map .d) [] = some (v, fh)) (hv : pureB v = true) : PCon P f ds v := by
  have i := callF_ok (P := P) (L := L) (K := K) hX n
  have hend : endOK [] v (keeps fh []) = true := by
    rw [keeps_nil]
    simp only [endOK, keys, List.map_nil, nodupB, List.all_nil, Bool.and_self, Bool.true_and, Bool.and_true]
    have hp := pureB_ok hv
    cases v with
    | d x => rfl
    | tup cs =>
      show inBL [] cs = true
      have hv' : ∀ c ∈ cs, ∃ x, c = .d x := hp
      clear hp hv h
      induction cs with
      | nil => rfl
      | cons c r ih =>
        obtain ⟨x, rfl⟩ := hv' c List.mem_cons_self
        simp only [inBL, inB, Bool.true_and]
        exact ih fun c hc => hv' c (List.mem_cons_of_mem _ hc)
    | _ => exact hp.elim
  have hcon := evF_con (ko := []) i.1 i.2 h hend
  rw [keeps_nil] at hcon
  exact hcon
end
end Av
/- A call that only reads: growing slices may be handed as data. -/
namespace Av
open Go
variable [Glb] [Rls]

/-- no memory behind it -/
def scalar : Dat → Bool
  | .bool _ | .int _ _ | .str _ => true
  | _ => false

theorem Rep.scalar {A A' : Nat → Prop} {w w' : World} {x : Dat} {u : Value} (h : Rep A w x u) (hs : scalar x = true) : Rep A' w' x u := by
  cases h <;> first | (simp [Av.scalar] at hs; done) | (constructor <;> assumption)

theorem hputs_nil (H : Heap) : hputs H [] = H := rfl

theorem PCon.borrow {P : Program} {f : Nat} {ds : List Dat} {r : Dat} (h : PCon P f (ds.map Dat.canon) (.d r)) (hr : scalar r = true) {args : List Av} {T : List (Nat × Option Obj)} {p : Prop} {u : List (Nat × Obj)}
    (hd : ∀ H : Heap, (∀ e ∈ T, H e.1 = e.2) → datumAll H args = some (p, ds, u)) (hp : p) : CallOK P f args T (.d r) [] := by
  intro β A w H vs hT hc hvs
  obtain ⟨A', st, hl, hrep, hA⟩ := datumAll_ok hc (hd H hT) hp (us := vs.toList) (by simpa using hvs.1) (fun i c v h1 h2 => hvs.2 i c v h1 (by simpa using h2))
  have hc0 : Core β A' w (get []) := ⟨(by intro i o hi; cases hi), (by intro i j o o' b hi; cases hi), (by intro i o b hi; cases hi), st.core.old, st.core.glob⟩
  refine .inl ⟨h.1, (h.2 β A' w vs hc0 ⟨by simp at hl ⊢; omega, ?_⟩).mono ?_⟩
  · intro i c v h1 h2
    rw [List.map_map, List.getElem?_map] at h1
    cases e : ds[i]? with
    | none => simp [e] at h1
    | some x =>
      simp only [e, Option.map_some, Option.some.injEq, Function.comp] at h1
      subst h1
      exact .d _ _ (hrep i x v e (by simpa using h2)).canon
  · rintro e w' ⟨v, β1, A1, rfl, hsince, hc1, hv⟩
    obtain ⟨s1, s2, s3, s4, s5, sl, s6, s7, s8⟩ := hsince
    dsimp only at s1 s2 s3 s4 s5 sl
    have hsame : ∀ b, b < w.heap.size → w'.heap[b]? = w.heap[b]? := fun b hb => s5 b hb (by intro i o hi; cases hi)
    have hst : Stp β A w H β A w' H := Stp.new hc s1 s2 s3 s4 hsame (fun _ h => h) (fun _ h => .inl h) (fun b hb => by have := hc.old b hb; omega)
    exact ⟨v, rfl, β, A, hst, .d _ _ (hv.of_d.scalar hr)⟩

def tOf (hp : List (Nat × Obj)) (vs : List Av) : List (Nat × Option Obj) := (vs.flatMap idsC).map fun i => (i, get hp i)

theorem datumAll_tOf {hp : List (Nat × Obj)} {vs : List Av} {H : Heap} (h : ∀ e ∈ tOf hp vs, H e.1 = e.2) : datumAll H vs = datumAll (get hp) vs :=
  datumAll_eq fun x hx => h (x, get hp x) (List.mem_map.2 ⟨x, hx, rfl⟩)

theorem tgets_tOf (hp : List (Nat × Obj)) (vs : List Av) : tgets (get hp) (tOf hp vs) := by
  refine tgets_of ?_
  intro e he
  obtain ⟨i, _, rfl⟩ := List.mem_map.1 he
  rfl

section
variable {P : Program} {st : St}
theorem wps_borrow {d : Option Nat} {f : Cal} {args : List Opd} {rs : Ss} {K : St → Prop} {f' : Nat} {vs : List Av} {p : Prop} {ds : List Dat} {u : List (Nat × Obj)} {r : Dat} (ht : target (get st.tm) f args = some (.fn f', vs))
    (hd : datumAll (get st.hp) vs = some (p, ds, u)) (hp : p) (hc : PCon P f' (ds.map Dat.canon) (.d r)) (hs : scalar r = true) (hr : wps P rs K (st.app d (.d r) [])) : wps P (.call d f args rs) K st :=
  wps_call ht (hc.borrow hs (fun H hH => by rw [datumAll_tOf hH]; exact hd) hp) (tgets_tOf _ _) hr
end
end Av
/- Contracts that take a counter by its address. -/
namespace Av
open Go
variable [Glb] [Rls]
attribute [go_sem] fillP

theorem hputs_cnt (i : Nat) (n m : Int) : ∀ j, (hputs (get [(i, .box [.d (.int .i64 n)])]) [(i, .box [.d (.int .i64 m)])] j).isSome = true → j = i := by
  intro j h
  simp only [hputs, upd, get] at h
  by_cases e : j = i
  · exact e
  · have e' : ¬ i = j := fun h => e h.symm
    simp [e, e'] at h

theorem Con.cnt {P : Program} {f : Nat} {ds : List Dat} {n m : Int} {r : Dat}
    (h : Con P f (ds.map .d ++ [.ref 1000 0]) [(1000, .box [.d (.int .i64 n)])] (.d r) [(1000, .box [.d (.int .i64 m)])]) (i : Nat) :
    CallOK P f (ds.map .d ++ [.ref i 0]) [(i, some (.box [.d (.int .i64 n)]))] (.d r) [(i, .box [.d (.int .i64 m)])] := by
  have hcl : ∀ a : Int, closed (get [(1000, .box [.d (.int .i64 a)])]) := by
    intro a
    refine closed_of ?_
    simp only [closedH, objIn, idsInL, idsIn, and_self]
  have := h.call (fun _ => i) ?_ ?_ ?_ (hcl n) [] ?_ ?_ ?_
  · have e : (ds.map Av.d).map (Av.ren fun _ => i) = ds.map Av.d := by
      rw [List.map_map]; exact List.map_congr_left fun x _ => by simp [Av.ren]
    simpa [Av.ren, Obj.ren, renL, e] using this
  · intro j hj
    simp only [get] at hj
    split at hj
    · rename_i e; subst e; decide
    · cases hj
  · intro a b ha hb _
    rw [hputs_cnt _ _ _ _ ha, hputs_cnt _ _ _ _ hb]
  · intro c hc
    rcases List.mem_append.1 hc with hc | hc
    · obtain ⟨x, _, rfl⟩ := List.mem_map.1 hc; trivial
    · simp only [List.mem_singleton] at hc; subst hc; rfl
  · intro e he
    simp only [List.mem_singleton] at he
    subst he
    exact .inl rfl
  · exact closed_puts (hcl_put n m)
  · trivial
where
  hcl_put (n m : Int) : closedH (get (puts [(1000, .box [.d (.int .i64 n)])] [(1000, .box [.d (.int .i64 m)])])) (puts [(1000, .box [.d (.int .i64 n)])] [(1000, .box [.d (.int .i64 m)])]) := by
    simp [puts, put, closedH, objIn, idsInL, idsIn]
end Av
/- From a contract of the kit's shelf to a contract of ours: a call with data that leaves memory as it was. -/
namespace Av
open Go Go.RowKit
variable [Glb] [Rls]

theorem CallOK.of_calls {P : Program} {f : Nat} {ds : List Dat} {v : Av} (hh : Has P f)
    (h : ∀ (A : Nat → Prop) (w : World) (vs : Array Value), ds.length = vs.size → (∀ (i : Nat) d u, ds[i]? = some d → vs[i]? = some u → Rep A w d u) →
      Calls P f vs w fun e w' => ∃ u, e = .returned u ∧ Below w.heap.size w w' ∧ ∀ β H, VRep β (fun b => A b) w' H v u) : CallOK P f (ds.map .d) [] v [] := by
  intro β A w H vs _ hc hvs
  have hl : ds.length = vs.size := by simpa using hvs.1
  refine .inl ⟨hh, (h A w vs hl ?_).mono ?_⟩
  · intro i d u hd hu
    have := hvs.2 i (.d d) u (by rw [List.getElem?_map, hd]; rfl) hu
    exact this.of_d
  · rintro e w' ⟨u, rfl, hb, hr⟩
    refine ⟨u, rfl, β, A, ?_, hr β _⟩
    exact Stp.new hc hb.os hb.tape hb.output hb.size hb.block (fun _ h => h) (fun _ h => .inl h) (fun b hA => Nat.lt_of_lt_of_le (hc.old b hA) hb.size)

/-- the same, with what the package-level variables hold -/
theorem CallOK.of_callsG {P : Program} {f : Nat} {ds : List Dat} {v : Av} (hh : Has P f)
    (h : ∀ (A : Nat → Prop) (w : World) (vs : Array Value), (∀ g cs, globOf g = some cs → GRep A w g cs) → ds.length = vs.size → (∀ (i : Nat) d u, ds[i]? = some d → vs[i]? = some u → Rep A w d u) →
      Calls P f vs w fun e w' => ∃ u, e = .returned u ∧ Below w.heap.size w w' ∧ ∀ β H, VRep β (fun b => A b) w' H v u) : CallOK P f (ds.map .d) [] v [] := by
  intro β A w H vs _ hc hvs
  have hl : ds.length = vs.size := by simpa using hvs.1
  refine .inl ⟨hh, (h A w vs hc.glob hl ?_).mono ?_⟩
  · intro i d u hd hu
    have := hvs.2 i (.d d) u (by rw [List.getElem?_map, hd]; rfl) hu
    exact this.of_d
  · rintro e w' ⟨u, rfl, hb, hr⟩
    refine ⟨u, rfl, β, A, ?_, hr β _⟩
    exact Stp.new hc hb.os hb.tape hb.output hb.size hb.block (fun _ h => h) (fun _ h => .inl h) (fun b hA => Nat.lt_of_lt_of_le (hc.old b hA) hb.size)
end Av
/- What every value that lies in memory fits: bounds of lengths and of ints; a contract may assume it of its arguments. -/
namespace Av
open Go

mutual
def fits : Dat → Prop
  | .str s => s.length ≤ 68719476736
  | .int k n => k.min ≤ n ∧ n ≤ k.max
  | .list _ xs => xs.length ≤ 68719476736 ∧ fitsL xs
  | .agg cs => fitsL cs
  | .ptr cs => fitsL cs
  | .iface _ d => fits d
  | _ => True
def fitsL : List Dat → Prop
  | [] => True
  | x :: r => fits x ∧ fitsL r
end
theorem fitsL_iff : ∀ {l : List Dat}, fitsL l ↔ ∀ x ∈ l, fits x
  | [] => by simp [fitsL]
  | x :: r => by simp [fitsL, fitsL_iff (l := r)]
theorem fits_cells {x : Dat} (h : ∀ c ∈ x.cells, fits c) : fits x := by
  cases x with
  | agg cs => simp only [fits]; exact fitsL_iff.2 h
  | _ => exact h _ (by simp [Dat.cells])

theorem Rep.fits {A : Nat → Prop} {w : World} {x : Dat} {v : Value} (h : Rep A w x v) : Av.fits x := by
  induction h with
  | str s h => exact h
  | int k n h => exact h
  | emp sz a cap => simp [Av.fits, fitsL]
  | list sz xs b o n cap vs hn hAb hl hc h1 hsz hh hvl hv ih =>
    refine ⟨hc, fitsL_iff.2 fun x hx => fits_cells fun c hc' => ?_⟩
    have hm : c ∈ flat xs := List.mem_flatMap.2 ⟨x, hx, hc'⟩
    obtain ⟨i, hi, rfl⟩ := List.getElem_of_mem hm
    exact ih i _ _ (List.getElem?_eq_getElem hi) (List.getElem?_eq_getElem (by omega))
  | agg cs arr hl h1 hv ih =>
    simp only [Av.fits]
    refine fitsL_iff.2 fun c hc => ?_
    obtain ⟨i, hi, rfl⟩ := List.getElem_of_mem hc
    exact ih i _ _ (List.getElem?_eq_getElem hi) (Array.getElem?_eq_getElem (by omega))
  | ptr cs b o vs hAb h1 hh hvl hv ih =>
    simp only [Av.fits]
    refine fitsL_iff.2 fun c hc => ?_
    obtain ⟨i, hi, rfl⟩ := List.getElem_of_mem hc
    exact ih i _ _ (List.getElem?_eq_getElem hi) (List.getElem?_eq_getElem (by omega))
  | iface t x v h ih => exact ih
  | _ => trivial

variable [Glb] [Rls]
theorem PCon.of_fits {P : Program} {f : Nat} {ds : List Dat} {v : Av} (hh : Has P f) (h : (∀ d ∈ ds, fits d) → PCon P f ds v) : PCon P f ds v := by
  refine ⟨hh, fun β A w vs hc hvs => (h fun d hd => ?_).2 β A w vs hc hvs⟩
  obtain ⟨i, hi, rfl⟩ := List.getElem_of_mem hd
  have hl : ds.length = vs.size := by simpa using hvs.1
  have := hvs.2 i (.d ds[i]) vs[i] (by simp [hi]) (by simp)
  exact this.of_d.fits
theorem Con.of_fits {P : Program} {f : Nat} {args : List Av} {T : List (Nat × Obj)} {v : Av} {ups : List (Nat × Obj)} (hh : Has P f) (h : (∀ d, .d d ∈ args → fits d) → Con P f args T v ups) : Con P f args T v ups := by
  refine ⟨hh, fun β A w vs hc hvs => (h fun d hd => ?_).2 β A w vs hc hvs⟩
  obtain ⟨i, hi, e⟩ := List.getElem_of_mem hd
  have := hvs.2 i (.d d) (vs[i]'(by have := hvs.1; omega)) (by rw [← e]; simp) (by simp)
  exact this.of_d.fits
theorem FnOk.has {P : Program} {f N : Nat} {ic : Ic} {ris : List RI} (h : FnOk P f N ic ris) : Has P f := by
  obtain ⟨fn, code, h1, h2, h3, _⟩ := h.ex
  exact ⟨fn, h1, by rw [h2]; rfl, h3⟩
end Av
/- From the shelf's contracts of slices.Sort and slices.Compact (strings) to contracts of ours; a nil slice in a handed box. -/
namespace Av
open Go Go.Sort Go.Proofs
variable [Glb] [Rls]

theorem putRow_setRow {w : World} {b : Nat} {C : Array Value} {T : TypeId} {fr : Nat × Nat} (d : Array (List UInt8)) (hh : w.heap[b]? = some (.cells C T fr)) : putRow encStr w b 0 d = w.setRow b (putCells encStr 0 d C) := by
  unfold putRow mapBlock World.setRow
  congr 1
  apply Array.ext_getElem?
  intro k
  simp only [Array.getElem?_modify]
  by_cases hk : b = k
  · subst hk
    rw [hh]
    rfl
  · simp [hk]

theorem flat_str (l : List (List UInt8)) : flat (l.map .str) = l.map .str := by
  induction l with
  | nil => rfl
  | cons x r ih => simp only [flat, List.map_cons, List.flatMap_cons, Dat.cells, List.singleton_append, List.cons.injEq, true_and]; exact ih

section
variable {β : Blocks} {A : Nat → Prop} {w : World} {H : Heap}

/-- a row of strings is written anew in its place, and other blocks are added -/
theorem Stp.rowPut (hc : Core β A w H) {i b ver ver' cap m n : Nat} {ss ys : List (List UInt8)} {C : Array Value} {T : TypeId} (os : Array Go.Obj) (hi : H i = some (.row ver 1 (ss.map .str))) (hb : β i = some b)
    (hh : w.heap[b]? = some (.cells C T (0, 0))) (hcap : C.size = cap * 1) (hys : ys.length ≤ cap) (hm : m ≤ ys.length) (hver : ver ≤ ver') (hlen : ver' = ver → m = ss.length) (hl : ∀ y ∈ ys.take m, y.length ≤ 68719476736) (hbnd : m ≤ 68719476736) :
    Stp β A w H β A (grow (putRow encStr (ahead w n) b 0 ys.toArray) os) (upd H i (some (.row ver' 1 ((ys.take m).map .str)))) ∧
      (grow (putRow encStr (ahead w n) b 0 ys.toArray) os).heap[b]? = some (.cells (putCells encStr 0 ys.toArray C) T (0, 0)) := by
  have h1 : Stp β A w H β A (ahead w n) H := Stp.draw hc rfl rfl rfl rfl
  have hh' : (ahead w n).heap[b]? = some (.cells C T (0, 0)) := hh
  rw [putRow_setRow _ hh']
  have hsz : (putCells encStr 0 ys.toArray C).size = C.size := by simp [putCells]
  have hget : ∀ k, (putCells encStr 0 ys.toArray C)[k]? = (C[k]?).map fun x => if k < ys.length then encStr ys.toArray[k]! else x := by
    intro k
    simp only [putCells, Array.getElem?_mapIdx, Nat.zero_le, true_and, Nat.zero_add, List.size_toArray, Nat.sub_zero]
  have hcell : ∀ (j : Nat) y v, (ys.take m)[j]? = some y → (putCells encStr 0 ys.toArray C)[j]? = some v → v = .string ⟨y.toArray⟩ := by
    intro j y v hy hv
    rw [hget] at hv
    obtain ⟨hj, rfl⟩ := List.getElem?_eq_some_iff.1 hy
    have hj' : j < m ∧ j < ys.length := by simp only [List.length_take] at hj; omega
    cases hC : C[j]? with
    | none => rw [hC] at hv; cases hv
    | some x =>
      rw [hC] at hv
      simp only [Option.map_some, if_pos hj'.2, Option.some.injEq] at hv
      rw [← hv]
      simp [hj'.2]
  have h2 := Stp.rowSet h1.core (ver' := ver') (xs' := (ys.take m).map .str) (C' := putCells encStr 0 ys.toArray C) hi hb hh' hcap hsz hver (fun e => by have := hlen e; simp; omega)
    (fun x hx => by obtain ⟨y, _, rfl⟩ := List.mem_map.1 hx; rfl) (by simp; omega) (by simp; omega)
    (fun j v hj hv => by
      rw [flat_str] at hj
      obtain ⟨y, hy⟩ : ∃ y, (ys.take m)[j]? = some y := ⟨_, List.getElem?_eq_getElem (by simpa using hj)⟩
      rw [hcell j y v hy hv]
      rfl)
    (fun j c v hc' hv => by
      rw [flat_str, List.getElem?_map] at hc'
      cases hy : (ys.take m)[j]? with
      | none => rw [hy] at hc'; cases hc'
      | some y =>
        rw [hy] at hc'
        cases hc'
        rw [hcell j y v hy hv]
        exact .str _ (hl y (List.mem_of_getElem? hy)))
  have hsame : ∀ k, k < ((ahead w n).setRow b (putCells encStr 0 ys.toArray C)).heap.size → (grow ((ahead w n).setRow b (putCells encStr 0 ys.toArray C)) os).heap[k]? = ((ahead w n).setRow b (putCells encStr 0 ys.toArray C)).heap[k]? := by
    intro k hk
    show (_ ++ os)[k]? = _
    rw [Array.getElem?_append_left hk]
  have h3 : Stp β A ((ahead w n).setRow b (putCells encStr 0 ys.toArray C)) (upd H i (some (.row ver' 1 ((ys.take m).map .str)))) β A (grow ((ahead w n).setRow b (putCells encStr 0 ys.toArray C)) os) (upd H i (some (.row ver' 1 ((ys.take m).map .str)))) :=
    Stp.new h2.core rfl rfl rfl (by simp [grow]) hsame (fun _ h => h) (fun _ h => .inl h) (fun k h => by have := h2.core.old k h; simp [grow] at this ⊢; omega)
  refine ⟨(h1.trans h2).trans h3, ?_⟩
  have hset := setRow_heap (ahead w n) b C (putCells encStr 0 ys.toArray C) T (0, 0) hh'
  rw [hsame b (Array.getElem?_eq_some_iff.1 hset).1, hset]

theorem size_one {vs : Array Value} (h : 1 = vs.size) : ∃ x, vs = #[x] := by
  refine ⟨vs[0], ?_⟩
  apply Array.ext
  · simp [← h]
  · intro i h1 h2
    have : i = 0 := by omega
    subst this
    rfl

/-- what a handed row of strings is in memory -/
theorem row_mem (hc : Core β A w H) {i v : Nat} {ss : List (List UInt8)} (hi : H i = some (.row v 1 (ss.map .str))) {u : Value} (hu : VRep β A w H (.ms i v) u) :
    (β i = none ∧ ss = [] ∧ ∃ a, u = .slice a 0 0) ∨ ∃ b C T cap, β i = some b ∧ w.heap[b]? = some (.cells C T (0, 0)) ∧ C.size = cap * 1 ∧ ss.length ≤ cap ∧ u = .slice (some ⟨b, 0, none⟩) ss.length cap ∧
      Go.Sort.Holds encStr w b 0 ss.toArray ∧ ∀ s ∈ ss, s.length ≤ 68719476736 := by
  obtain ⟨_, hcell, hbnd, hrow⟩ := hc.objs i _ hi
  cases hu with
  | ms _ _ _ hoc h0 h1 h2 =>
    obtain ⟨_, hrv⟩ := h1 _ _ _ hi
    have hrv := hrv rfl
    rcases hrv with ⟨hbn, hn, a, rfl⟩ | ⟨b, C, T, fz, cap, hb, hh, hC, hle, rfl⟩
    · exact .inl ⟨hbn, by simpa using hn, a, rfl⟩
    · rcases hrow with ⟨hbn, _⟩ | ⟨b', C', T', cap', hb', hh', hC', hle', h1c, h2c⟩
      · rw [hb] at hbn; cases hbn
      · rw [hb] at hb'
        cases hb'
        rw [hh] at hh'
        cases hh'
        have hval : ∀ j (hj : j < ss.length), C[j]? = some (encStr ss[j]) ∧ ss[j].length ≤ 68719476736 := by
          intro j hj
          have hlt : j < C.size := by rw [hC]; simp at hle; omega
          have := h2c j (.str ss[j]) C[j] (by rw [flat_str]; simp [hj]) (by simp [hlt])
          generalize hz : C[j] = z at this
          cases this with
          | str _ hs => exact ⟨by rw [Array.getElem?_eq_getElem hlt, hz], hs⟩
        refine .inr ⟨b, C, T, cap, hb, hh, hC, by simpa using hle, by simp, ?_, ?_⟩
        · intro j hj
          have hj : j < ss.length := by simpa using hj
          refine ⟨?_, ?_⟩
          · simp only [World.cell?, hh, Nat.zero_add]
            rw [(hval j hj).1]
            simp [hj]
          · simp [World.frozen?, hh]
        · intro s hs
          obtain ⟨j, hj, rfl⟩ := List.getElem_of_mem hs
          exact (hval j hj).2
end

def sortS (ss : List (List UInt8)) : List (List UInt8) := ss.mergeSort fun x y => decide (x ≤ y)
theorem sortS_perm (ss : List (List UInt8)) : (sortS ss).Perm ss := List.mergeSort_perm _ _

theorem CallOK.sort {P : Program} {f : Nat} (hh : Has P f)
    (hS : ∀ (b cap : Nat) (ss : List (List UInt8)) (w : World), Go.Sort.Holds encStr w b 0 ss.toArray → b < w.heap.size → ss.length < 4611686018427387904 → Calls P f #[.slice (some ⟨b, 0, none⟩) ss.length cap] w fun e w' => e = .returned (.tuple #[]) ∧
      ∃ n os, w' = grow (putRow encStr (ahead w n) b 0 (ss.mergeSort fun x y => decide (x ≤ y)).toArray) os)
    (hN : ∀ (a : Option Addr) (cap : Nat) (w : World), Calls P f #[.slice a 0 cap] w fun e w' => e = .returned (.tuple #[]) ∧ w' = w) (i v : Nat) (ss : List (List UInt8)) :
    CallOK P f [.ms i v] [(i, some (.row v 1 (ss.map .str)))] (.tup []) [(i, .row v 1 ((sortS ss).map .str))] := by
  intro β A w H vs hT hc hvs
  have hi : H i = some (.row v 1 (ss.map .str)) := hT _ (List.mem_singleton.2 rfl)
  have hbnd := (hc.objs i _ hi).2.2.1
  obtain ⟨u, rfl⟩ := size_one hvs.1
  have hu := hvs.2 0 (.ms i v) u rfl rfl
  refine .inl ⟨hh, ?_⟩
  rcases row_mem hc hi hu with ⟨hbn, rfl, a, rfl⟩ | ⟨b, C, T, cap, hb, hheap, hC, hle, rfl, hH, hlen⟩
  · refine (hN a 0 w).mono ?_
    rintro e w' ⟨rfl, rfl⟩
    refine ⟨_, rfl, β, A, ?_, .tup [] #[] rfl (by simp)⟩
    have : hputs H [(i, .row v 1 ((sortS []).map .str))] = H := by
      simp only [hputs, sortS, List.mergeSort_nil, List.map_nil]
      exact upd_self _ _ _ (by simpa using hi)
    rw [this]
    exact Stp.refl hc
  · refine (hS b cap ss w hH (Array.getElem?_eq_some_iff.1 hheap).1 (by simp at hbnd; omega)).mono ?_
    rintro e w' ⟨rfl, n, os, rfl⟩
    refine ⟨_, rfl, β, A, ?_, .tup [] #[] rfl (by simp)⟩
    have hl : (sortS ss).length = ss.length := (sortS_perm ss).length_eq
    have := (Stp.rowPut hc (ver' := v) (m := ss.length) (n := n) (ys := sortS ss) os hi hb hheap hC (by omega) (by omega) (Nat.le_refl _) (fun _ => rfl) (fun y hy => hlen y ((sortS_perm ss).mem_iff.1 (List.mem_of_mem_take hy))) (by simpa using hbnd)).1
    rw [List.take_of_length_le (by omega)] at this
    exact this

theorem CallOK.compact {P : Program} {f : Nat} (hh : Has P f)
    (hS : ∀ (b cap : Nat) (ss : List (List UInt8)) (w : World), Go.Sort.Holds encStr w b 0 ss.toArray → ss.length ≤ 9223372036854775807 → ss.length ≤ cap → Calls P f #[.slice (some ⟨b, 0, none⟩) ss.length cap] w fun e w' => e = .returned (.slice (some ⟨b, 0, none⟩) (Lib.compact ss).length cap) ∧
      ∃ q, w' = putRow encStr (ahead w q) b 0 (Lib.compact ss ++ List.replicate (ss.length - (Lib.compact ss).length) []).toArray)
    (hN : ∀ (a : Option Addr) (cap : Nat) (w : World), Calls P f #[.slice a 0 cap] w fun e w' => e = .returned (.slice a 0 cap) ∧ w' = w) (hsub : ∀ ss : List (List UInt8), (Lib.compact ss).Sublist ss) (i v : Nat) (ss : List (List UInt8)) :
    CallOK P f [.ms i v] [(i, some (.row v 1 (ss.map .str)))] (.ms i (v + 1)) [(i, .row (v + 1) 1 ((Lib.compact ss).map .str))] := by
  intro β A w H vs hT hc hvs
  have hi : H i = some (.row v 1 (ss.map .str)) := hT _ (List.mem_singleton.2 rfl)
  have hbnd := (hc.objs i _ hi).2.2.1
  obtain ⟨u, rfl⟩ := size_one hvs.1
  have hu := hvs.2 0 (.ms i v) u rfl rfl
  refine .inl ⟨hh, ?_⟩
  rcases row_mem hc hi hu with ⟨hbn, rfl, a, rfl⟩ | ⟨b, C, T, cap, hb, hheap, hC, hle, rfl, hH, hlen⟩
  · refine (hN a 0 w).mono ?_
    rintro e w' ⟨rfl, hw⟩
    have hw := hw.symm
    subst hw
    have hc0 : Lib.compact ([] : List (List UInt8)) = [] := List.eq_nil_of_length_eq_zero (Nat.le_zero.1 (hsub []).length_le)
    rw [hc0]
    have hst : Stp β A w H (upd β i none) A w (upd H i (some (.row (v + 1) 1 []))) :=
      Stp.one hc i (.row (v + 1) 1 []) none rfl rfl rfl (Nat.le_refl _) (fun _ _ _ => rfl) (fun _ h => h) (fun _ h => .inl h) (fun b h => hc.old b h) (by simp) (fun c u hcase hvr => old_vals (.inr ⟨v, 1, _, hi, by omega⟩) c u hcase hvr)
        (fun _ => ⟨by decide, by simp, by simp, .inl ⟨upd_same _ _ _, rfl⟩⟩)
    refine ⟨_, rfl, _, A, hst, ?_⟩
    refine .ms _ _ _ rfl (by simp [hputs, upd]) ?_ (by simp [hputs, upd])
    intro v3 sz3 xs3 h3
    simp only [hputs, upd, List.map_nil, if_true, Option.some.injEq, Obj.row.injEq] at h3
    obtain ⟨rfl, rfl, rfl⟩ := h3
    exact ⟨Nat.le_refl _, fun _ => .inl ⟨upd_same _ _ _, rfl, a, rfl⟩⟩
  · refine (hS b cap ss w hH (by simp at hbnd; omega) hle).mono ?_
    rintro e w' ⟨rfl, q, rfl⟩
    have hs := hsub ss
    have hl := hs.length_le
    obtain ⟨h1, h2⟩ := Stp.rowPut hc (ver' := v + 1) (m := (Lib.compact ss).length) (n := q) (ys := Lib.compact ss ++ List.replicate (ss.length - (Lib.compact ss).length) []) #[] hi hb hheap hC (by simp; omega) (by simp) (by omega) (fun h => by omega)
      (fun y hy => hlen y (hs.subset (by simpa using hy))) (by simp at hbnd; omega)
    have e0 : ∀ w : World, grow w #[] = w := fun w => by simp [grow]
    rw [e0] at h1 h2
    simp only [List.take_left'] at h1
    refine ⟨_, rfl, β, A, h1, ?_⟩
    refine .ms _ _ _ rfl (by simp [hputs, upd]) ?_ (by simp [hputs, upd])
    intro v3 sz3 xs3 h3
    simp only [hputs, upd, if_true, Option.some.injEq, Obj.row.injEq] at h3
    obtain ⟨rfl, rfl, rfl⟩ := h3
    refine ⟨Nat.le_refl _, fun _ => .inr ⟨b, _, T, (0, 0), cap, hb, h2, by simp [putCells, hC], by simp; omega, by simp⟩⟩

theorem hputs_out : ∀ (ups : List (Nat × Obj)) (H : Heap) (m : Nat), ¬ (get ups m).isSome = true → hputs H ups m = H m
  | [], H, m, _ => rfl
  | (i, o) :: r, H, m, h => by
    simp only [get] at h
    split at h
    · exact absurd rfl h
    · rename_i hne
      simp only [hputs]
      rw [hputs_out r _ m h, upd_ne _ _ (Ne.symm hne)]
theorem hputs_same : ∀ (ups : List (Nat × Obj)) (H H' : Heap) (m : Nat), (get ups m).isSome = true → hputs H ups m = hputs H' ups m
  | [], H, H', m, h => by cases h
  | (i, o) :: r, H, H', m, h => by
    simp only [hputs]
    by_cases hr : (get r m).isSome = true
    · exact hputs_same r _ _ m hr
    · rw [hputs_out r _ m hr, hputs_out r _ m hr]
      simp only [get] at h
      split at h
      · rename_i e; subst e; rw [upd_same, upd_same]
      · exact absurd h hr
theorem Stp.nilB {β : Blocks} {A : Nat → Prop} {w : World} {H : Heap} (hc : Core β A w H) {b j k sz : Nat} {cs : List Av} (hb : H b = some (.box cs)) (hj : cs[j]? = some (.d (.nil sz))) (hk : H k = none) (hsz : 0 < sz) :
    ∃ β', Stp β A w H β' A w (upd (upd H k (some (.row 0 sz []))) b (some (.box (cs.set j (.ms k 0))))) := by
  have hne : b ≠ k := fun e => by subst e; rw [hk] at hb; cases hb
  have hst := Stp.rowNil (β := β) hc hk hsz
  have hb1 : upd H k (some (.row 0 sz [])) b = some (.box cs) := by rw [upd_ne _ _ hne]; exact hb
  obtain ⟨bb, C, T, e1, e2, e3, e4, e5⟩ := hst.core.objs b _ hb1
  have hset : w.setRow bb C = w := setRow_same e2
  have hst2 := Stp.boxSet (cs' := cs.set j (.ms k 0)) (C' := C) hst.core hb1 e1 e2 (by simpa using e3) e4 (fun hall i c v hc' hv' => by
    rw [List.getElem?_set] at hc'
    split at hc'
    · rename_i e
      subst e
      split at hc'
      · cases hc'
        obtain ⟨bb0, C0, T0, q1, q2, q3, q4, q5⟩ := hc.objs b _ hb
        have hbb : bb0 = bb := by
          rw [upd_ne _ _ hne] at e1
          rw [q1] at e1
          exact Option.some.inj e1
        subst hbb
        rw [e2] at q2
        cases q2
        have hr := (q5 j _ v hj hv').of_d
        exact hall _ _ (VRep.rowNil hr)
      · cases hc'
    · exact hall _ _ (e5 i c v hc' hv'))
  rw [hset] at hst2
  exact ⟨_, hst.trans hst2⟩

/-- a nil slice in a handed box becomes a growing one before the call -/
theorem CallOK.nilBox {P : Program} {f : Cee} {args : List Av} {v : Av} {ups : List (Nat × Obj)} {T : List (Nat × Option Obj)} {i k sz j : Nat} {cs : List Av}
    (h : CallOK P f args ((i, some (.box (cs.set j (.ms k 0)))) :: (k, some (.row 0 sz [])) :: T) v ups) (hT : ∀ e ∈ T, e.1 ≠ i ∧ e.1 ≠ k) (hik : i ≠ k) (hj : cs[j]? = some (.d (.nil sz))) (hsz : 0 < sz)
    (hui : (get ups i).isSome = true) (huk : (get ups k).isSome = true) : CallOK P f args ((i, some (.box cs)) :: (k, none) :: T) v ups := by
  intro β A w H vs hT' hc hvs
  have hi : H i = some (.box cs) := hT' (i, some (.box cs)) List.mem_cons_self
  have hk : H k = none := hT' (k, none) (List.mem_cons_of_mem _ List.mem_cons_self)
  have hst := Stp.nilB hc hi hj hk hsz
  obtain ⟨β2, hst⟩ := hst
  have hput : hputs (upd (upd H k (some (.row 0 sz []))) i (some (.box (cs.set j (.ms k 0))))) ups = hputs H ups := by
    funext m
    by_cases hm : (get ups m).isSome = true
    · exact hputs_same ups _ _ m hm
    · have hmi : m ≠ i := fun e => hm (e ▸ hui)
      have hmk : m ≠ k := fun e => hm (e ▸ huk)
      rw [hputs_out ups _ m hm, hputs_out ups _ m hm, upd_ne _ _ hmi, upd_ne _ _ hmk]
  have := h β2 A w _ vs (fun e he => ?_) hst.core ⟨hvs.1, fun n c u h1 h2 => hst.vals c u (hvs.2 n c u h1 h2)⟩
  · rw [hput] at this
    cases f with
    | fn g =>
      rcases this with ⟨a1, a2⟩ | ⟨u, w', a1, β', A', a2, a3⟩
      · refine .inl ⟨a1, a2.mono ?_⟩
        rintro e w' ⟨u, rfl, β', A', b1, b2⟩
        exact ⟨u, rfl, β', A', hst.trans b1, b2⟩
      · exact .inr ⟨u, w', a1, β', A', hst.trans a2, a3⟩
    | yld =>
      obtain ⟨l, rest, a1, fn, tmps, asg, body, a2, a3⟩ := this
      refine ⟨l, rest, a1, fn, tmps, asg, body, a2, a3.mono ?_⟩
      rintro e w' ⟨u, rfl, β', A', b1, b2⟩
      exact ⟨u, rfl, β', A', hst.trans b1, b2⟩
  · simp only [List.mem_cons] at he
    rcases he with rfl | rfl | he
    · exact upd_same _ _ _
    · rw [upd_ne _ _ (Ne.symm hik)]; exact upd_same _ _ _
    · obtain ⟨q1, q2⟩ := hT e he
      rw [upd_ne _ _ q1, upd_ne _ _ q2]
      exact hT' e (List.mem_cons_of_mem _ (List.mem_cons_of_mem _ he))
end Av
/- A whole growing slice seen as a part of itself. -/
namespace Av
open Go
variable [Glb] [Rls]

section
variable {β : Blocks} {A : Nat → Prop} {w : World} {H : Heap} {D : Nat → Prop}
theorem VRep.sub_of_ms {i ver sz : Nat} {xs : List Dat} {u : Value} (h : VRep β A w H (.ms i ver) u) (hi : H i = some (.row ver sz xs)) : VRep β A w H (.sub i ver 0 xs.length) u := by
  cases h with
  | ms _ _ _ hu h0 h1 h2 =>
    refine .sub _ _ _ _ _ hu h0 ?_ ?_
    · intro v' sz' xs' hr
      obtain ⟨g1, g2⟩ := h1 v' sz' xs' hr
      refine ⟨g1, fun e => ?_⟩
      rw [hi] at hr
      cases hr
      refine ⟨by omega, ?_⟩
      rcases g2 rfl with ⟨b0, n0, a, rfl⟩ | ⟨b, C, T, fz, cap, e1, e2, e3, e4, rfl⟩
      · exact .inl ⟨b0, rfl, n0, a, rfl⟩
      · exact .inr ⟨b, C, T, fz, cap, ⟨b, 0, none⟩, e1, e2, e3, by omega, fun _ => by simp, by simp⟩
    · intro sz' xs' hr
      rw [hi] at hr
      cases hr
/-- a temporary's growing slice is a part of its row -/
theorem Wk.subT {st : St} (t i ver sz : Nat) (xs : List Dat) (ht : get st.tm t = some (.ms i ver)) (hi : get st.hp i = some (.row ver sz xs)) : Wk D st ⟨put st.tm t (.sub i ver 0 xs.length), st.hp⟩ := by
  intro β A w a hc htr
  refine ⟨β, A, hc, fun t' v hv => ?_, fun i o b h1 h2 h3 => ⟨i, o, h1, h2, h3⟩, fun _ h => .inl h, fun c u _ h => h⟩
  rw [get_put] at hv
  split at hv
  · rename_i e
    subst e
    cases hv
    obtain ⟨u, q1, q2⟩ := htr t' _ ht
    exact ⟨u, q1, q2.sub_of_ms hi⟩
  · exact htr t' v hv
end
end Av
namespace Av
open Go
variable [Glb] [Rls]
theorem ren_dats (ρ : Nat → Nat) (ds : List Dat) : renL ρ (ds.map .d) = ds.map .d := by
  induction ds with
  | nil => rfl
  | cons x r ih => simp [renL, Av.ren, ih]
theorem ren_pure {v : Av} (h : pureR v) (ρ : Nat → Nat) : v.ren ρ = v := by
  cases v with
  | d x => rfl
  | tup cs =>
    have h' : ∀ c ∈ cs, ∃ x, c = .d x := h
    have e : ∃ ds : List Dat, cs = ds.map .d := by
      clear h
      induction cs with
      | nil => exact ⟨[], rfl⟩
      | cons c r ih =>
        obtain ⟨x, rfl⟩ := h' c List.mem_cons_self
        obtain ⟨ds, rfl⟩ := ih fun c hc => h' c (List.mem_cons_of_mem _ hc)
        exact ⟨x :: ds, rfl⟩
    obtain ⟨ds, rfl⟩ := e
    simp only [Av.ren, ren_dats]
  | _ => exact h.elim
theorem idsInL_dats (G : Nat → Option Obj) (ds : List Dat) : idsInL G (ds.map .d) := by
  induction ds with
  | nil => trivial
  | cons x r ih => exact ⟨trivial, ih⟩
theorem inT_pure {v : Av} (h : pureR v) (G : Heap) : inT G v := by
  cases v with
  | d x => trivial
  | tup cs =>
    have h' : ∀ c ∈ cs, ∃ x, c = .d x := h
    show idsInL _ cs
    clear h
    induction cs with
    | nil => trivial
    | cons c r ih =>
      obtain ⟨x, rfl⟩ := h' c List.mem_cons_self
      exact ⟨trivial, ih fun c hc => h' c (List.mem_cons_of_mem _ hc)⟩
  | _ => exact h.elim

/-- a method with a receiver whose variables are data: it may change them -/
theorem Con.rw1 {P : Program} {f : Nat} {as cs cs' : List Dat} {v : Av} (h : Con P f (.ref 1000 0 :: as.map .d) [(1000, .box (cs.map .d))] v [(1000, .box (cs'.map .d))]) (hv : pureR v) (i : Nat) :
    CallOK P f (.ref i 0 :: as.map .d) [(i, some (.box (cs.map .d)))] v [(i, .box (cs'.map .d))] := by
  have hcl : ∀ a : List Dat, closed (get [(1000, .box (a.map .d))]) := fun a => closed_of ⟨idsInL_dats _ a, trivial⟩
  have hu : hputs (get [(1000, .box (cs.map .d))]) [(1000, .box (cs'.map .d))] = get [(1000, .box (cs'.map .d))] := by
    rw [← get_puts]; rfl
  have hdom : ∀ (a : List Dat) j, (get [(1000, Obj.box (a.map .d))] j).isSome = true → j = 1000 := by
    intro a j hj
    simp only [get] at hj
    split at hj
    · rename_i e; exact e.symm
    · cases hj
  have := h.call (fun _ => i) ?_ ?_ ?_ (hcl cs) [] ?_ ?_ ?_
  · have e : (as.map Av.d).map (Av.ren fun _ => i) = as.map Av.d := by
      rw [List.map_map]; exact List.map_congr_left fun x _ => by simp [Av.ren]
    simpa [Av.ren, Obj.ren, ren_dats, e, ren_pure hv] using this
  · intro j hj
    rw [hdom _ j hj]
    decide
  · intro a b ha hb _
    rw [hu] at ha hb
    rw [hdom _ a ha, hdom _ b hb]
  · intro c hc
    rcases List.mem_cons.1 hc with rfl | hc
    · rfl
    · obtain ⟨x, _, rfl⟩ := List.mem_map.1 hc; trivial
  · intro e he
    simp only [List.mem_singleton] at he
    subst he
    exact .inl rfl
  · rw [hu]; exact hcl cs'
  · exact inT_pure hv _
end Av
namespace Av
open Go
variable [Glb] [Rls]
/-- a temporary's growing slice becomes data for good -/
theorem Wk.frzT {D : Nat → Prop} {st : St} (t i v sz : Nat) (xs : List Dat) (ht : get st.tm t = some (.ms i v)) (hi : get st.hp i = some (.row v sz xs)) : Wk D st ⟨put st.tm t (.d (.list sz xs)), put st.hp i (.frz v sz xs)⟩ := by
  refine Wk.of_stp ?_
  intro β A w a hc htr
  obtain ⟨u, q1, q2⟩ := htr t _ ht
  have hd : datumAll (get st.hp) [.ms i v] = some (v = v ∧ True, [.list sz xs], [(i, .frz v sz xs)]) := by simp [datumAll, datum, datum1, hi]
  obtain ⟨A1, s1, l1, r1, m1⟩ := datumAll_ok hc hd ⟨rfl, trivial⟩ (us := [u]) rfl (fun k c u' h1 h2 => by
    cases k with
    | zero => simp at h1 h2; subst h1; subst h2; exact q2
    | succ k => simp at h1)
  have hh : get (put st.hp i (.frz v sz xs)) = hputs (get st.hp) [(i, .frz v sz xs)] := funext fun j => by rw [get_put]; rfl
  rw [hh]
  refine ⟨β, A1, s1, ?_⟩
  intro t' v' hv
  rw [get_put] at hv
  split at hv
  · rename_i e
    subst e
    cases hv
    exact ⟨u, q1, .d _ _ (r1 0 _ u rfl rfl)⟩
  · obtain ⟨u', g1, g2⟩ := htr t' v' hv
    exact ⟨u', g1, s1.vals _ _ g2⟩
end Av
/- From a contract of the shelf whose answer is data in memory of the call's own to a contract of ours. -/
namespace Av
open Go Go.RowKit
variable [Glb] [Rls]

theorem CallOK.of_callsN {P : Program} {f : Nat} {ds : List Dat} {x : Dat} (hh : Has P f)
    (h : ∀ (A : Nat → Prop) (w : World) (vs : Array Value), ds.length = vs.size → (∀ (i : Nat) d u, ds[i]? = some d → vs[i]? = some u → Rep A w d u) →
      Calls P f vs w fun e w' => ∃ u, e = .returned u ∧ Below w.heap.size w w' ∧ Rep (fun b => A b ∨ (w.heap.size ≤ b ∧ b < w'.heap.size)) w' x u) : CallOK P f (ds.map .d) [] (.d x) [] := by
  intro β A w H vs _ hc hvs
  have hl : ds.length = vs.size := by simpa using hvs.1
  refine .inl ⟨hh, (h A w vs hl ?_).mono ?_⟩
  · intro i d u hd hu
    have := hvs.2 i (.d d) u (by rw [List.getElem?_map, hd]; rfl) hu
    exact this.of_d
  · rintro e w' ⟨u, rfl, hb, hr⟩
    refine ⟨u, rfl, β, fun b => A b ∨ (w.heap.size ≤ b ∧ b < w'.heap.size), ?_, .d _ _ hr⟩
    refine Stp.new hc hb.os hb.tape hb.output hb.size hb.block (fun _ h => .inl h) ?_ ?_
    · rintro b (h | h)
      · exact .inl h
      · exact .inr h.1
    · rintro b (h | h)
      · exact Nat.lt_of_lt_of_le (hc.old b h) hb.size
      · exact h.2

/-- a row of strings that a call has laid reads as data -/
theorem rep_owns {A : Nat → Prop} {w w' : World} {e : TypeId} {v : Value} {n : Nat} {ss : List (List UInt8)} (hn : n = ss.length) (hs : ∀ s ∈ ss, s.length ≤ 68719476736) (hl : ss.length ≤ 68719476736)
    (h : w'.ownsRow w.heap.size e 1 v n (ss.map fun s => Value.string ⟨s.toArray⟩)) : Rep (fun b => A b ∨ (w.heap.size ≤ b ∧ b < w'.heap.size)) w' (.list 1 (ss.map .str)) v := by
  obtain ⟨h1, ⟨rfl, h0⟩ | ⟨g, cap, cur, rfl, hg, hh, hcap, _, hcur, htake⟩⟩ := h
  · have : ss = [] := by cases ss with
      | nil => rfl
      | cons a r => simp at hn; omega
    subst this
    exact .emp 1 none 0
  · have hlt : g < w'.heap.size := (Array.getElem?_eq_some_iff.1 hh).1
    refine .list 1 _ g 0 n cap (ss.map fun s => Value.string ⟨s.toArray⟩) (by simpa using hn) (.inr ⟨hg, hlt⟩) (by simp; omega) (by simpa using hl) ?_ ?_ ?_ ?_ ?_
    · intro u hu; obtain ⟨s, _, rfl⟩ := List.mem_map.1 hu; rfl
    · intro x hx; obtain ⟨s, _, rfl⟩ := List.mem_map.1 hx; rfl
    · intro i u hu
      have : (cur.toList.take (n * 1))[i]? = some u := by rw [htake]; exact hu
      rw [List.getElem?_take] at this
      split at this
      · simp only [World.cell?, hh, Nat.zero_add]
        simpa using this
      · cases this
    · rw [flat_str]; simp
    · intro i c u hc hu
      rw [flat_str, List.getElem?_map] at hc
      rw [List.getElem?_map] at hu
      cases q : ss[i]? with
      | none => rw [q] at hc; cases hc
      | some s =>
        rw [q] at hc hu
        cases hc
        cases hu
        exact .str s (hs s (List.mem_of_getElem? q))
end Av
