/- Part I of a proof. -/
import Derived.Test.YtiekiedlkehccaaGreatDoorEqE
import Derived.Test.YtiekiedlkehccaaGreatDoorEqD
import Derived.Lib.Bytealg
import Derived.Test.YtiekiedlkehccaaGreatDoorEqG
set_option linter.unusedVariables false
set_option linter.unusedSimpArgs false
set_option linter.unusedSectionVars false
set_option maxRecDepth 10000
namespace Av
open Go
variable [Glb] [Rls]

section
variable {β : Blocks} {A : Nat → Prop} {w : World} {H : Heap} {D : Nat → Prop}

/-- a call that only reads what it is handed: rows and trees may be taken as data, and stay what they were -/
theorem CallOK.borrow {P : Program} {f : Nat} {ds : List Dat} {r : Dat} (h : PCon P f ds (.d r)) (hr : scalar r = true) (cs : List Av) (T : List (Nat × Option Obj))
    (hds : ∀ H : Heap, (∀ e ∈ T, H e.1 = e.2) → ∃ p ups, datumAll H cs = some (p, ds, ups) ∧ p) : CallOK P f cs T (.d r) [] := by
  intro β A w H vs hT hc hvs
  obtain ⟨p, ups, hd, hp⟩ := hds H hT
  obtain ⟨A1, s1, l1, r1, m1⟩ := datumAll_ok hc hd hp (us := vs.toList) (by simpa using hvs.1) (fun k c u h1 h2 => hvs.2 k c u h1 (by simpa using h2))
  have hc0 : Core β A1 w (get []) := ⟨(by intro i o hi; cases hi), (by intro i j o o' b hi; cases hi), (by intro i o b hi; cases hi), s1.core.old, s1.core.glob⟩
  refine .inl ⟨h.1, (h.2 β A1 w vs hc0 ⟨by simpa using l1, ?_⟩).mono ?_⟩
  · intro k c v h1 h2
    rw [List.getElem?_map] at h1
    cases e : ds[k]? with
    | none => simp [e] at h1
    | some x =>
      simp only [e, Option.map_some, Option.some.injEq] at h1
      subst h1
      exact .d _ _ (r1 k x v e (by simpa using h2))
  · rintro e w' ⟨v, β1, A2, rfl, hsince, hc1, hv⟩
    obtain ⟨s1, s2, s3, s4, s5, sl, s6, s7, s8⟩ := hsince
    dsimp only at s1 s2 s3 s4 s5 sl
    have hsame : ∀ b, b < w.heap.size → w'.heap[b]? = w.heap[b]? := fun b hb => s5 b hb (by intro i o hi; cases hi)
    have hst : Stp β A w H β A w' H := Stp.new hc s1 s2 s3 s4 hsame (fun _ h => h) (fun _ h => .inl h) (fun b hb => by have := hc.old b hb; omega)
    exact ⟨v, rfl, β, A, hst, .d _ _ (hv.of_d.scalar hr)⟩

/-- an empty tree -/
theorem Stp.treNil (hc : Core β A w H) {k sz : Nat} (hk : H k = none) (hsz : 0 < sz) : Stp β A w H (upd β k (none : Option Nat)) A w (upd H k (some (.tre 0 0 sz []))) := by
  refine Stp.many hc (fun t => t = k) (fun t ht => upd_ne _ _ ht) (fun t ht => upd_ne _ _ ht) rfl rfl rfl (Nat.le_refl _) (fun _ _ _ => rfl) (fun _ h => h) (fun _ h => .inl h) hc.old ?_ (fun t t' _ _ _ ht ht' _ _ _ _ _ _ => ht.trans ht'.symm) ?_ ?_ ?_
  · rintro t o b rfl _ _ hb
    rw [upd_same] at hb
    cases hb
  · rintro t c u rfl hh hvr
    exact handle_tre (v := 0) (s := 0) (sz := sz) (xs := []) (.inr hk) (upd_same _ _ _) (Nat.le_refl _) (Nat.le_refl _) hh hvr (fun h => by rw [hk] at h; cases h)
  · rintro _ t o rfl ho
    rw [upd_same] at ho
    cases ho
    refine ⟨.slice none 0 0, ?_, ?_, ?_, ?_⟩
    · rw [upd_same]; exact .nil sz none hsz
    · rw [upd_same]; exact List.Pairwise.nil
    · exact .inl ⟨by rw [upd_same], rfl, none, rfl⟩
    · rw [upd_same]; rfl
  · rintro b r _ ⟨t, o, rfl, ho, _, _⟩
    rw [hk] at ho; cases ho
theorem VRep.treNil {k sz : Nat} {u : Value} (hr : Rep A w (.nil sz) u) : VRep (upd β k (none : Option Nat)) A w (upd H k (some (.tre 0 0 sz []))) (.tr k ⟨0, 0, [], none⟩) u := by
  cases hr with
  | nil _ ad =>
    refine .tr _ _ _ rfl (by simp [upd]) (fun h => by cases h) ?_
    intro v3 s3 sz3 xs3 h3
    simp only [upd, if_true, Option.some.injEq, Obj.tre.injEq] at h3
    obtain ⟨rfl, rfl, rfl, rfl⟩ := h3
    exact ⟨Nat.le_refl _, Nat.le_refl _, fun _ _ => ⟨_, _, .inl ⟨by rw [upd_same], rfl, ad, rfl⟩, rfl, rfl⟩⟩
/-- a nil slice in a box becomes an empty tree -/
theorem Wk.nilTB {st : St} (b j k sz : Nat) (cs : List Av) (hb : get st.hp b = some (.box cs)) (hj : cs[j]? = some (.d (.nil sz))) (hk : get st.hp k = none) (hsz : 0 < sz) :
    Wk D st ⟨st.tm, put (put st.hp k (.tre 0 0 sz [])) b (.box (cs.set j (.tr k ⟨0, 0, [], none⟩)))⟩ := by
  refine Wk.of_stp ?_
  intro β A w a hc htr
  have hne : b ≠ k := fun e => by subst e; rw [hk] at hb; cases hb
  have hst := Stp.treNil (β := β) hc hk hsz
  have hb1 : upd (get st.hp) k (some (.tre 0 0 sz [])) b = some (.box cs) := by rw [upd_ne _ _ hne]; exact hb
  obtain ⟨bb, C, T, e1, e2, e3, e4, e5⟩ := hst.core.objs b _ hb1
  have hset : w.setRow bb C = w := setRow_same e2
  have hst2 := Stp.boxSet (cs' := cs.set j (.tr k ⟨0, 0, [], none⟩)) (C' := C) hst.core hb1 e1 e2 (by simpa using e3) e4 (fun hall i c v hc' hv' => by
    rw [List.getElem?_set] at hc'
    split at hc'
    · rename_i e
      subst e
      split at hc'
      · cases hc'
        obtain ⟨bb0, C0, T0, q1, q2, q3, q4, q5⟩ := hc.objs b _ hb
        have hbb : bb0 = bb := by
          rw [upd_ne _ _ hne] at e1
          rw [q1] at e1
          exact Option.some.inj (BK.mk.inj e1).1
        subst hbb
        rw [e2] at q2
        cases q2
        have hr := (q5 j _ v hj hv').of_d
        exact hall _ _ (VRep.treNil hr)
      · cases hc'
    · exact hall _ _ (e5 i c v hc' hv'))
  rw [hset] at hst2
  have hh : get (put (put st.hp k (.tre 0 0 sz [])) b (.box (cs.set j (.tr k ⟨0, 0, [], none⟩)))) = upd (upd (get st.hp) k (some (.tre 0 0 sz []))) b (some (.box (cs.set j (.tr k ⟨0, 0, [], none⟩)))) := funext fun i => by
    rw [get_put, get_put]
    rfl
  rw [hh]
  refine ⟨_, A, hst.trans hst2, ?_⟩
  intro t v hv
  obtain ⟨u, q1, q2⟩ := htr t v hv
  exact ⟨u, q1, (hst.trans hst2).vals _ _ q2⟩
end
end Av

namespace Av
open Go
variable [Glb]

mutual
def owV : Val → Dat
  | .mk k i s t l f => .agg [.int .i64 k, .int .i64 i, .int .i64 s, .str t, .own 6 (owVs l), .own 7 (owFs f)]
def owVs : List Val → List Dat
  | [] => []
  | v :: r => owV v :: owVs r
def owF : Fld → Dat
  | .mk n v => .agg (.str n :: (owV v).cells)
def owFs : List Fld → List Dat
  | [] => []
  | v :: r => owF v :: owFs r
end
theorem owVs_map : ∀ l : List Val, owVs l = l.map owV
  | [] => by simp [owVs]
  | v :: r => by simp [owVs, owVs_map r]
theorem owFs_map : ∀ l : List Fld, owFs l = l.map owF
  | [] => by simp [owFs]
  | v :: r => by simp [owFs, owFs_map r]
theorem owV_eq (v : Val) : owV v = .agg [.int .i64 v.kind, .int .i64 v.int, .int .i64 v.scale, .str v.text, .own 6 (v.list.map owV), .own 7 (v.fields.map owF)] := by
  cases v; simp [owV, owVs_map, owFs_map, Val.kind, Val.int, Val.scale, Val.text, Val.list, Val.fields]
theorem owF_eq (f : Fld) : owF f = .agg [.str f.name, .int .i64 f.value.kind, .int .i64 f.value.int, .int .i64 f.value.scale, .str f.value.text, .own 6 (f.value.list.map owV), .own 7 (f.value.fields.map owF)] := by
  cases f; simp [owF, owV_eq, Fld.name, Fld.value, Dat.cells]
mutual
def owE : Exp → Dat
  | .mk o i t v a => .agg [.int .i64 o, .int .i64 i, .str t, .own 6 (v.map owV), .own 5 (owEs a)]
def owEs : List Exp → List Dat
  | [] => []
  | v :: r => owE v :: owEs r
end
theorem owEs_map : ∀ l : List Exp, owEs l = l.map owE
  | [] => by simp [owEs]
  | v :: r => by simp [owEs, owEs_map r]
theorem owE_eq (e : Exp) : owE e = .agg [.int .i64 e.op, .int .i64 e.int, .str e.text, .own 6 (e.value.map owV), .own 5 (e.args.map owE)] := by
  cases e; simp [owE, owEs_map, Exp.op, Exp.int, Exp.text, Exp.value, Exp.args]

mutual
theorem dat_owV : ∀ v : Val, (owV v).dat = encV v
  | .mk k i s t l f => by simp only [owV, encV, Dat.dat, Dat.dat.datL, dat_owVs l, dat_owFs f]
theorem dat_owVs : ∀ l : List Val, Dat.dat.datL (owVs l) = encVs l
  | [] => by simp [owVs, encVs, Dat.dat.datL]
  | v :: r => by simp only [owVs, encVs, Dat.dat.datL, dat_owV v, dat_owVs r]
theorem dat_owF : ∀ f : Fld, (owF f).dat = encF f
  | .mk n (.mk k i s t l f) => by simp only [owF, owV, encF, encV, Dat.cells, Dat.dat, Dat.dat.datL, dat_owVs l, dat_owFs f]
theorem dat_owFs : ∀ l : List Fld, Dat.dat.datL (owFs l) = encFs l
  | [] => by simp [owFs, encFs, Dat.dat.datL]
  | v :: r => by simp only [owFs, encFs, Dat.dat.datL, dat_owF v, dat_owFs r]
end
theorem datL_vals (l : List Val) : Dat.dat.datL (l.map owV) = l.map encV := by rw [← owVs_map, dat_owVs, encVs_map]
theorem datL_flds (l : List Fld) : Dat.dat.datL (l.map owF) = l.map encF := by rw [← owFs_map, dat_owFs, encFs_map]
mutual
theorem dat_owE : ∀ e : Exp, (owE e).dat = encE e
  | .mk o i t v a => by simp only [owE, encE, Dat.dat, Dat.dat.datL, datL_vals, dat_owEs a]
theorem dat_owEs : ∀ l : List Exp, Dat.dat.datL (owEs l) = encEs l
  | [] => by simp [owEs, encEs, Dat.dat.datL]
  | v :: r => by simp only [owEs, encEs, Dat.dat.datL, dat_owE v, dat_owEs r]
end
theorem datL_exps (l : List Exp) : Dat.dat.datL (l.map owE) = l.map encE := by rw [← owEs_map, dat_owEs, encEs_map]

/-- a list of which the first elements were turned -/
def mix {α : Type} (f : α → α) (l : List α) (k : Nat) : List α := (l.take k).map f ++ l.drop k
theorem mix_len {α : Type} (f : α → α) (l : List α) (k : Nat) : (mix f l k).length = l.length := by simp [mix]; omega
theorem mix_zero {α : Type} (f : α → α) (l : List α) : mix f l 0 = l := by simp [mix]
theorem mix_all {α : Type} (f : α → α) (l : List α) : mix f l l.length = l.map f := by simp [mix]
theorem mix_get {α : Type} (f : α → α) (l : List α) (k : Nat) (h : k < l.length) : (mix f l k)[k]? = some l[k] := by
  have : (List.map f (l.take k)).length = k := by simp; omega
  rw [mix, List.getElem?_append_right (by omega), this]
  simp [List.getElem?_drop, List.getElem?_eq_getElem h]
theorem mix_set {α : Type} (f : α → α) (l : List α) (k : Nat) (h : k < l.length) : (mix f l k).set k (f l[k]) = mix f l (k + 1) := by
  have h1 : (List.map f (l.take k)).length = k := by simp; omega
  rw [mix, List.set_append_right _ _ (by omega), h1, Nat.sub_self, mix, List.take_succ_eq_append_getElem h, List.map_append, List.drop_eq_getElem_cons h, List.set_cons_zero]
  simp

section
theorem cellAt_set1 {xs : List Dat} {k c k1 c1 : Nat} {y y0 : Dat} (hy : isCell y = true) (h : cellAt xs k c = some y0) :
    cellAt (xs.set k (setEl (xs.getD k .opq) c y)) k1 c1 = if k1 = k ∧ c1 = c then some y else cellAt xs k1 c1 := by
  unfold cellAt at h ⊢
  cases e : xs[k]? with
  | none => rw [e] at h; cases h
  | some z =>
    rw [e] at h
    simp only [Option.bind_some] at h
    have hk : k < xs.length := (List.getElem?_eq_some_iff.1 e).1
    have hc : c < z.cells.length := (List.getElem?_eq_some_iff.1 h).1
    have hz : xs.getD k .opq = z := by rw [List.getD_eq_getElem?_getD, e]; rfl
    rw [hz, List.getElem?_set]
    by_cases hk1 : k = k1
    · subst hk1
      rw [if_pos rfl, if_pos hk, Option.bind_some, setEl_cells hy hc, List.getElem?_set]
      by_cases hc1 : c = c1
      · subst hc1
        rw [if_pos rfl, if_pos hc, if_pos ⟨rfl, rfl⟩]
      · rw [if_neg hc1, if_neg (fun h => hc1 h.2.symm), e, Option.bind_some]
    · rw [if_neg hk1, if_neg (fun h => hk1 h.1.symm)]
theorem setEl_two {x y y' : Dat} {c : Nat} (hy : isCell y = true) : setEl (setEl x c y) c y' = setEl x c y' := by
  cases x <;> simp only [setEl]
  case agg cs => simp
  all_goals (cases y <;> first | rfl | cases hy)
theorem setEl_get {x y : Dat} {c : Nat} (hy : isCell y = true) (hc : c < x.cells.length) : (setEl x c y).cells.getD c .opq = y := by
  rw [setEl_cells hy hc, List.getD_eq_getElem?_getD, List.getElem?_set_self hc]
  rfl

theorem cellAt_get {xs : List Dat} {k c : Nat} {y : Dat} (h : cellAt xs k c = some y) : k < xs.length ∧ c < (xs.getD k .opq).cells.length ∧ (xs.getD k .opq).cells.getD c .opq = y := by
  unfold cellAt at h
  cases e : xs[k]? with
  | none => rw [e] at h; cases h
  | some z =>
    rw [e, Option.bind_some] at h
    have hz : xs.getD k .opq = z := by rw [List.getD_eq_getElem?_getD, e]; rfl
    rw [hz]
    exact ⟨(List.getElem?_eq_some_iff.1 e).1, (List.getElem?_eq_some_iff.1 h).1, by rw [List.getD_eq_getElem?_getD, h]; rfl⟩

theorem node_set {y y0 : Dat} {k c sz : Nat} {ys : List Dat} (hy : isCell y = true) : ∀ {p : List (Nat × Nat)} {x : Dat}, nodeAt x p = some (.own sz ys) → cellAt ys k c = some y0 →
    nodeAt (setAt x p k c y) p = some (.own sz (ys.set k (setEl (ys.getD k .opq) c y))) := by
  intro p
  induction p with
  | nil =>
    intro x h1 h2
    obtain ⟨sz', xs, rfl⟩ := node_own h1
    cases h1
    rfl
  | cons kc p ih =>
    intro x h1 h2
    obtain ⟨sz', xs, rfl⟩ := node_own h1
    obtain ⟨k', c'⟩ := kc
    simp only [nodeAt] at h1
    split at h1
    · rename_i y' e1
      obtain ⟨g1, g2, g3⟩ := cellAt_get e1
      have ho := node_own h1
      have := cellAt_set1 (k1 := k') (c1 := c') (setAt_cell (x := y') ho p k c y) e1
      rw [if_pos ⟨rfl, rfl⟩] at this
      simp only [setAt, nodeAt, g3, this]
      exact ih h1 h2
    · cases h1

theorem node_set_self {y0 : Dat} {k c sz s : Nat} {ys V : List Dat} {p : List (Nat × Nat)} {x : Dat} (h : nodeAt x p = some (.own sz ys)) (hc : cellAt ys k c = some y0) :
    nodeAt (setAt x p k c (.own s V)) (p ++ [(k, c)]) = some (.own s V) := by
  have h1 := node_set (y := .own s V) rfl h hc
  have h2 := cellAt_set1 (k1 := k) (c1 := c) (y := .own s V) rfl hc
  rw [if_pos ⟨rfl, rfl⟩] at h2
  rw [node_snoc h1 h2]
  rfl
theorem node_set_sib {y y0 z : Dat} {k c c1 sz : Nat} {ys : List Dat} {p : List (Nat × Nat)} {x : Dat} (hy : isCell y = true) (h : nodeAt x p = some (.own sz ys)) (hc : cellAt ys k c = some y0) (hc1 : cellAt ys k c1 = some z) (hne : c1 ≠ c) :
    nodeAt (setAt x p k c y) (p ++ [(k, c1)]) = nodeAt x (p ++ [(k, c1)]) := by
  have h1 := node_set hy h hc
  have h2 := cellAt_set1 (k1 := k) (c1 := c1) hy hc
  rw [if_neg (fun h => hne h.2), hc1] at h2
  rw [node_snoc h1 h2, node_snoc h hc1]

theorem setAt_below {y y0 : Dat} {k c sz s i off : Nat} {ys V : List Dat} : ∀ {p : List (Nat × Nat)} {x : Dat}, nodeAt x p = some (.own sz ys) → cellAt ys k c = some y0 →
    setAt (setAt x p k c (.own s V)) (p ++ [(k, c)]) i off y = setAt x p k c (.own s (V.set i (setEl (V.getD i .opq) off y))) := by
  intro p
  induction p with
  | nil =>
    intro x h1 h2
    obtain ⟨sz', xs, rfl⟩ := node_own h1
    cases h1
    obtain ⟨g1, g2, g3⟩ := cellAt_get h2
    have e1 : ∀ E : Dat, (ys.set k E).getD k .opq = E := fun E => by rw [List.getD_eq_getElem?_getD, List.getElem?_set_self g1]; rfl
    simp only [List.nil_append, setAt, e1, setEl_get (y := .own s V) rfl g2, setEl_two (y := .own s V) rfl, List.set_set]
  | cons kc p ih =>
    intro x h1 h2
    obtain ⟨sz', xs, rfl⟩ := node_own h1
    obtain ⟨k', c'⟩ := kc
    simp only [nodeAt] at h1
    split at h1
    · rename_i y' e1
      obtain ⟨g1, g2, g3⟩ := cellAt_get e1
      have ho := node_own h1
      have hcell := setAt_cell (x := y') ho p k c (.own s V)
      have e2 : ∀ E : Dat, (xs.set k' E).getD k' .opq = E := fun E => by rw [List.getD_eq_getElem?_getD, List.getElem?_set_self g1]; rfl
      simp only [List.cons_append, setAt, e2, g3, setEl_get hcell g2, setEl_two hcell, List.set_set]
      rw [ih h1 h2]
    · cases h1

/-- a tree with another row below an element -/
def putc (z : Nat) (xs : List Dat) (p : List (Nat × Nat)) (k c s : Nat) (V : List Dat) : List Dat := xsOf (setAt (.own z xs) p k c (.own s V))
theorem own_putc (z : Nat) (xs : List Dat) (p : List (Nat × Nat)) (k c s : Nat) (V : List Dat) : .own z (putc z xs p k c s V) = setAt (.own z xs) p k c (.own s V) := by
  obtain ⟨xs', e, _⟩ := setAt_own (sz := z) (xs := xs) p k c (.own s V)
  rw [putc, e]
  rfl
variable {z sz s k c c1 : Nat} {xs ys V : List Dat} {p : List (Nat × Nat)} {y0 y1 : Dat}
theorem putc_node (h : nodeAt (.own z xs) p = some (.own sz ys)) (hc : cellAt ys k c = some y0) : nodeAt (.own z (putc z xs p k c s V)) (p ++ [(k, c)]) = some (.own s V) := by
  rw [own_putc]; exact node_set_self h hc
theorem putc_sib (h : nodeAt (.own z xs) p = some (.own sz ys)) (hc : cellAt ys k c = some y0) (hc1 : cellAt ys k c1 = some y1) (hne : c1 ≠ c) : nodeAt (.own z (putc z xs p k c s V)) (p ++ [(k, c1)]) = nodeAt (.own z xs) (p ++ [(k, c1)]) := by
  rw [own_putc]; exact node_set_sib rfl h hc hc1 hne
theorem putc_root (h : nodeAt (.own z xs) p = some (.own sz ys)) (hc : cellAt ys k c = some y0) : nodeAt (.own z (putc z xs p k c s V)) p = some (.own sz (ys.set k (setEl (ys.getD k .opq) c (.own s V)))) := by
  rw [own_putc]; exact node_set rfl h hc
theorem putc_sto {i off : Nat} {y : Dat} (h : nodeAt (.own z xs) p = some (.own sz ys)) (hc : cellAt ys k c = some y0) :
    xsOf (setAt (.own z (putc z xs p k c s V)) (p ++ [(k, c)]) i off y) = putc z xs p k c s (V.set i (setEl (V.getD i .opq) off y)) := by
  rw [own_putc, setAt_below h hc]; rfl
theorem putc_stoO {i off : Nat} {y : Dat} (h : nodeAt (.own z xs) p = some (.own sz ys)) (hc : cellAt ys k c = some y0) :
    setAt (.own z (putc z xs p k c s V)) (p ++ [(k, c)]) i off y = .own z (putc z xs p k c s (V.set i (setEl (V.getD i .opq) off y))) := by
  rw [own_putc, setAt_below h hc, ← own_putc]
theorem putc_putc {i off s' : Nat} {V' : List Dat} (h : nodeAt (.own z xs) p = some (.own sz ys)) (hc : cellAt ys k c = some y0) :
    putc z (putc z xs p k c s V) (p ++ [(k, c)]) i off s' V' = putc z xs p k c s (V.set i (setEl (V.getD i .opq) off (.own s' V'))) := putc_sto h hc
theorem setEl_self {x y : Dat} {c : Nat} (h : x.cells[c]? = some y) : setEl x c y = x := by
  cases x
  case agg cs =>
    simp only [Dat.cells] at h
    simp only [setEl, Dat.agg.injEq]
    obtain ⟨h1, rfl⟩ := List.getElem?_eq_some_iff.1 h
    exact List.set_getElem_self h1
  all_goals
    simp only [Dat.cells] at h
    have h0 : c = 0 := by
      obtain ⟨h1, _⟩ := List.getElem?_eq_some_iff.1 h
      simpa using h1
    subst h0
    simpa [setEl] using h.symm
theorem setAt_self {y : Dat} {k c sz : Nat} {ys : List Dat} : ∀ {p : List (Nat × Nat)} {x : Dat}, nodeAt x p = some (.own sz ys) → cellAt ys k c = some y → setAt x p k c y = x := by
  have key : ∀ {xs : List Dat} {k c : Nat} {y : Dat}, cellAt xs k c = some y → xs.set k (setEl (xs.getD k .opq) c y) = xs := by
    intro xs k c y h
    obtain ⟨g1, g2, g3⟩ := cellAt_get h
    have hy : (xs.getD k .opq).cells[c]? = some y := by
      rw [List.getElem?_eq_getElem g2]
      rw [List.getD_eq_getElem?_getD (l := (xs.getD k .opq).cells), List.getElem?_eq_getElem g2, Option.getD_some] at g3
      rw [g3]
    have : setEl (xs.getD k .opq) c y = xs.getD k .opq := setEl_self hy
    rw [this, List.getD_eq_getElem?_getD, List.getElem?_eq_getElem g1]
    exact List.set_getElem_self g1
  intro p
  induction p with
  | nil =>
    intro x h1 h2
    obtain ⟨sz', xs, rfl⟩ := node_own h1
    cases h1
    simp only [setAt, key h2]
  | cons kc p ih =>
    intro x h1 h2
    obtain ⟨sz', xs, rfl⟩ := node_own h1
    obtain ⟨k', c'⟩ := kc
    simp only [nodeAt] at h1
    split at h1
    · rename_i y' e1
      obtain ⟨g1, g2, g3⟩ := cellAt_get e1
      simp only [setAt, g3, ih h1 h2, key e1]
    · cases h1
theorem putc_self (h : nodeAt (.own z xs) p = some (.own sz ys)) (hc : cellAt ys k c = some (.own s V)) : putc z xs p k c s V = xs := by
  rw [putc, setAt_self h hc]; rfl
end

/-- a contract without handed objects whose result has two new ones, at a caller -/
theorem Con.two {P : Program} {f : Nat} {ds : List Dat} {x y a1 b1 s1 a2 b2 s2 : Nat} [Rls] {X Y : List Dat} {v : Av} (h : Con P f (ds.map .d) [] v [(x, .tre a1 b1 s1 X), (y, .tre a2 b2 s2 Y)]) (hxy : x ≠ y)
    (hv : inT (hputs (get []) [(x, .tre a1 b1 s1 X), (y, .tre a2 b2 s2 Y)]) v) (i j : Nat) (hij : i ≠ j) :
    CallOK P f (ds.map .d) [(i, none), (j, none)] (v.ren fun n => if n = x then i else j) [(i, .tre a1 b1 s1 X), (j, .tre a2 b2 s2 Y)] := by
  have hput : ∀ n, (hputs (get []) [(x, Obj.tre a1 b1 s1 X), (y, .tre a2 b2 s2 Y)] n).isSome = true ↔ n = x ∨ n = y := by
    intro n
    simp only [hputs, upd, get]
    by_cases h1 : n = y
    · simp [h1]
    · by_cases h2 : n = x
      · subst h2; simp [h1]
      · simp [h1, h2]
  have := Con.call h (fun n => if n = x then i else j) (by intro n h; cases h) (by
      intro m n hm hn e
      rcases (hput m).1 hm with rfl | rfl <;> rcases (hput n).1 hn with rfl | rfl
      · rfl
      · simp only [if_true, if_neg (Ne.symm hxy)] at e; exact absurd e hij
      · simp only [if_true, if_neg (Ne.symm hxy)] at e; exact absurd e.symm hij
      · rfl) (by intro c hc; obtain ⟨d, _, rfl⟩ := List.mem_map.1 hc; trivial) (by intro n o h; cases h) [x, y] (by
      intro e he
      simp only [List.mem_cons, List.not_mem_nil, or_false] at he
      rcases he with rfl | rfl
      · exact .inr (by simp)
      · exact .inr (by simp)) (by
      intro n o hn
      simp only [hputs, upd, get] at hn
      split at hn
      · cases hn; trivial
      · split at hn
        · cases hn; trivial
        · cases hn) hv
  have e0 : (ds.map Av.d).map (Av.ren fun n => if n = x then i else j) = ds.map .d := by simp [Av.ren]
  simp only [e0, List.map_cons, List.map_nil, Obj.ren, if_true, if_neg (Ne.symm hxy), List.nil_append] at this
  exact this
end Av

namespace Go.Proofs
open Go Av
theorem step19 (a : Exp) (ha : a.value.length ≤ 68719476736) (ha2 : a.args.length ≤ 68719476736) (h1 : ∀ x ∈ a.value, CallOK Tryz.prog 54 [.d (encV x)] [] (.d (encV x)) []) (h2 : ∀ x ∈ a.args, CallOK Tryz.prog 19 [.d (encE x)] [] (.d (encE x)) []) :
    PCon Tryz.prog 19 [encE a] (.d (encE a)) := by
  refine ok19.pcon (Nat.le_of_ble_eq_true rfl) trivial ?_
  rw [encE_eq]
  simp only [go_sem, ir19, Nat.reduceAdd, Nat.reduceEqDiff, Nat.reduceBEq, Nat.reduceLeDiff, reduceCtorEq, ↓reduceIte]
  refine wpc_loop (fun n s => ∃ k : Nat, k ≤ a.value.length ∧ n = a.value.length - k ∧
    s = ⟨[(1, .ref 1 0), (2, .ref 2 0), (3, .ref 3 0), (16, .d (.list 6 (a.value.map encV))), (17, .d (.int .i64 a.value.length)), (18, .d (.int .i64 k))],
      [(1, .box [.d (.int .i64 a.op), .d (.int .i64 a.int), .d (.str a.text), .d (.list 6 (a.value.map encV)), .d (.list 5 (a.args.map encE))]),
       (2, .box [.d (.int .i64 0), .d (.int .i64 0), .d (.str []), .d (.nil 6), .d (.nil 5)]),
       (3, .box [.d (.int .i64 a.op), .d (.int .i64 a.int), .d (.str a.text), .ms 27 k, .d (.nil 5)]),
       (27, .row k 6 ((a.value.take k).map encV))]⟩) ?_ ?_
  · refine ⟨_, _, Wk.nilB 3 3 27 6 _ rfl rfl rfl (by decide), 0, Nat.zero_le _, rfl, ?_⟩
    simp [put]
  · rintro n s ⟨k, hk, rfl, rfl⟩
    by_cases hlt : k < a.value.length
    · have hx := nth_encV hlt
      have hd : decide ((k : Int) < (a.value.length : Int)) = true := by simp; omega
      simp only [go_sem, hx, hd, Int.toNat_natCast, Nat.reduceAdd, Nat.reduceEqDiff, Nat.reduceBEq, Nat.reduceLeDiff, reduceCtorEq, ↓reduceIte]
      have hc := h1 a.value[k] (List.getElem_mem _)
      rw [encV_eq] at hc
      refine ⟨by simp; omega, wpsL_call rfl hc trivial ?_⟩
      simp only [go_sem, Nat.reduceAdd, Nat.reduceEqDiff, Nat.reduceBEq, Nat.reduceLeDiff, reduceCtorEq, ↓reduceIte]
      refine ⟨by simp, by simp; omega, rfl, a.value.length - (k + 1), _, by omega, Wk.less ?_, k + 1, by omega, rfl, rfl⟩
      rw [List.take_succ_eq_append_getElem hlt, List.map_append]
      simp only [go_sem, wrap64s k (by omega), List.map_cons, List.map_nil, encV_eq a.value[k], Nat.reduceAdd, Nat.reduceEqDiff, Nat.reduceBEq, Nat.reduceLeDiff, reduceCtorEq, ↓reduceIte]
    · have hd : decide ((k : Int) < (a.value.length : Int)) = false := by simp; omega
      obtain rfl : k = a.value.length := by omega
      simp only [go_sem, hd, List.take_length, Nat.reduceAdd, Nat.reduceEqDiff, Nat.reduceBEq, Nat.reduceLeDiff, reduceCtorEq, ↓reduceIte]
      refine wpc_loop (fun n s => ∃ k : Nat, k ≤ a.args.length ∧ n = a.args.length - k ∧
        s = ⟨[(2, .ref 2 0), (3, .ref 3 0), (31, .d (.list 5 (a.args.map encE))), (32, .d (.int .i64 a.args.length)), (33, .d (.int .i64 k))],
          [(2, .box [.d (.int .i64 0), .d (.int .i64 0), .d (.str []), .d (.nil 6), .d (.nil 5)]),
           (3, .box [.d (.int .i64 a.op), .d (.int .i64 a.int), .d (.str a.text), .ms 27 a.value.length, .ms 42 k]),
           (27, .row a.value.length 6 (a.value.map encV)),
           (42, .row k 5 ((a.args.take k).map encE))]⟩) ?_ ?_
      · refine ⟨_, _, (Wk.nilB 3 4 42 5 _ rfl rfl rfl (by decide)).trans (Wk.less ?_), 0, Nat.zero_le _, rfl, rfl⟩
        simp [put, go_sem]
      · rintro n s ⟨k, hk, rfl, rfl⟩
        by_cases hlt : k < a.args.length
        · have hx := nth_encE hlt
          have hd : decide ((k : Int) < (a.args.length : Int)) = true := by simp; omega
          have hc := h2 a.args[k] (List.getElem_mem _)
          rw [encE_eq] at hc
          simp only [go_sem, hx, hd, Int.toNat_natCast, Nat.reduceAdd, Nat.reduceEqDiff, Nat.reduceBEq, Nat.reduceLeDiff, reduceCtorEq, ↓reduceIte]
          refine ⟨by simp; omega, wpsL_call rfl hc trivial ?_⟩
          simp only [go_sem, Nat.reduceAdd, Nat.reduceEqDiff, Nat.reduceBEq, Nat.reduceLeDiff, reduceCtorEq, ↓reduceIte]
          refine ⟨by simp, by simp; omega, rfl, a.args.length - (k + 1), _, by omega, Wk.less ?_, k + 1, by omega, rfl, rfl⟩
          rw [List.take_succ_eq_append_getElem hlt, List.map_append]
          simp only [go_sem, wrap64s k (by omega), List.map_cons, List.map_nil, encE_eq a.args[k], Nat.reduceAdd, Nat.reduceEqDiff, Nat.reduceBEq, Nat.reduceLeDiff, reduceCtorEq, ↓reduceIte]
        · have hd : decide ((k : Int) < (a.args.length : Int)) = false := by simp; omega
          obtain rfl : k = a.args.length := by omega
          simp only [go_sem, hd, List.take_length, Nat.reduceAdd, Nat.reduceEqDiff, Nat.reduceBEq, Nat.reduceLeDiff, reduceCtorEq, ↓reduceIte]

mutual
theorem walk19 : ∀ (a : Exp), okE a → PCon Tryz.prog 19 [encE a] (.d (encE a))
  | .mk o i t v l, ha => by
    simp only [okE] at ha
    obtain ⟨a1, a2, a3, a4⟩ := ha
    exact step19 _ a1 a2 (fun x hx => (walk54s v a3 x hx).call trivial) (fun x hx => (walk19s l a4 x hx).call trivial)
theorem walk19s : ∀ (l : List Exp), okEs l → ∀ x ∈ l, PCon Tryz.prog 19 [encE x] (.d (encE x))
  | [], _, x, h => by cases h
  | v :: r, ho, x, h => by
    simp only [okEs] at ho
    by_cases e : x = v
    · rw [e]; exact walk19 v ho.1
    · exact walk19s r ho.2 x ((List.mem_cons.1 h).resolve_left e)
end
end Go.Proofs

namespace Go.Proofs
open Go Av

/-- a value of two trees -/
def rV (v : Val) (i j : Nat) : Av := .agg [.d (.int .i64 v.kind), .d (.int .i64 v.int), .d (.int .i64 v.scale), .d (.str v.text), .tr i ⟨v.list.length, 0, [], none⟩, .tr j ⟨v.fields.length, 0, [], none⟩]
def rE (e : Exp) (i j : Nat) : Av := .agg [.d (.int .i64 e.op), .d (.int .i64 e.int), .d (.str e.text), .tr i ⟨e.value.length, 0, [], none⟩, .tr j ⟨e.args.length, 0, [], none⟩]
abbrev CV (v : Val) (i j : Nat) : Prop := CallOK Tryz.prog 54 [.d (encV v)] [(i, none), (j, none)] (rV v i j) [(i, .tre v.list.length 0 6 (v.list.map owV)), (j, .tre v.fields.length 0 7 (v.fields.map owF))]
abbrev CE (e : Exp) (i j : Nat) : Prop := CallOK Tryz.prog 19 [.d (encE e)] [(i, none), (j, none)] (rE e i j) [(i, .tre e.value.length 0 6 (e.value.map owV)), (j, .tre e.args.length 0 5 (e.args.map owE))]

theorem step54t (a : Val) (ha : a.list.length ≤ 68719476736) (ha2 : a.fields.length ≤ 68719476736) (h1 : ∀ x ∈ a.list, CV x 901 902) (h2 : ∀ x ∈ a.fields, CV x.value 901 902) :
    Con Tryz.prog 54 [.d (encV a)] [] (rV a 23 42) [(23, .tre a.list.length 0 6 (a.list.map owV)), (42, .tre a.fields.length 0 7 (a.fields.map owF))] := by
  refine ok54.con (k := true) (Nat.le_of_ble_eq_true rfl) (closed_puts (by simp [puts, put, closedH, objIn])) (by simp [rV, hputs, upd, inT, idsIn, idsInL]) ?_
  rw [encV_eq, rV]
  simp only [go_sem, ir54, Nat.reduceAdd, Nat.reduceEqDiff, Nat.reduceBEq, Nat.reduceLeDiff, reduceCtorEq, ↓reduceIte]
  refine wpc_loop (fun n s => ∃ k : Nat, k ≤ a.list.length ∧ n = a.list.length - k ∧
    s = ⟨[(1, .ref 1 0), (2, .ref 2 0), (3, .ref 3 0), (12, .d (.list 6 (a.list.map encV))), (13, .d (.int .i64 a.list.length)), (14, .d (.int .i64 k))],
      [(1, .box [.d (.int .i64 a.kind), .d (.int .i64 a.int), .d (.int .i64 a.scale), .d (.str a.text), .d (.list 6 (a.list.map encV)), .d (.list 7 (a.fields.map encF))]),
       (2, .box [.d (.int .i64 0), .d (.int .i64 0), .d (.int .i64 0), .d (.str []), .d (.nil 6), .d (.nil 7)]),
       (3, .box [.d (.int .i64 a.kind), .d (.int .i64 a.int), .d (.int .i64 a.scale), .d (.str a.text), .tr 23 ⟨k, 0, [], none⟩, .d (.nil 7)]),
       (23, .tre k 0 6 ((a.list.take k).map owV))]⟩) ?_ ?_
  · refine ⟨_, _, Wk.nilTB 3 4 23 6 _ rfl rfl rfl (by decide), 0, Nat.zero_le _, rfl, ?_⟩
    simp [put]
  · rintro n s ⟨k, hk, rfl, rfl⟩
    by_cases hlt : k < a.list.length
    · have hx := nth_encV hlt
      have hd : decide ((k : Int) < (a.list.length : Int)) = true := by simp; omega
      simp only [go_sem, hx, hd, Int.toNat_natCast, Nat.reduceAdd, Nat.reduceEqDiff, Nat.reduceBEq, Nat.reduceLeDiff, reduceCtorEq, ↓reduceIte]
      have hc := h1 a.list[k] (List.getElem_mem _)
      rw [CV, encV_eq, rV] at hc
      refine ⟨by simp; omega, wpsL_call rfl hc ⟨rfl, rfl, trivial⟩ ?_⟩
      simp only [go_sem, Nat.reduceAdd, Nat.reduceEqDiff, Nat.reduceBEq, Nat.reduceLeDiff, reduceCtorEq, ↓reduceIte]
      refine ⟨⟨by decide, by simp; omega⟩, rfl, a.list.length - (k + 1), _, by omega, Wk.less ?_, k + 1, by omega, rfl, rfl⟩
      rw [List.take_succ_eq_append_getElem hlt, List.map_append]
      simp only [go_sem, wrap64s k (by omega), List.map_cons, List.map_nil, owV_eq a.list[k], Nat.reduceAdd, Nat.reduceEqDiff, Nat.reduceBEq, Nat.reduceLeDiff, reduceCtorEq, ↓reduceIte]
    · have hd : decide ((k : Int) < (a.list.length : Int)) = false := by simp; omega
      obtain rfl : k = a.list.length := by omega
      simp only [go_sem, hd, List.take_length, Nat.reduceAdd, Nat.reduceEqDiff, Nat.reduceBEq, Nat.reduceLeDiff, reduceCtorEq, ↓reduceIte]
      refine wpc_loop (fun n s => ∃ k : Nat, k ≤ a.fields.length ∧ n = a.fields.length - k ∧
        s = ⟨[(2, .ref 2 0), (3, .ref 3 0), (27, .d (.list 7 (a.fields.map encF))), (28, .d (.int .i64 a.fields.length)), (29, .d (.int .i64 k))],
          [(2, .box [.d (.int .i64 0), .d (.int .i64 0), .d (.int .i64 0), .d (.str []), .d (.nil 6), .d (.nil 7)]),
           (3, .box [.d (.int .i64 a.kind), .d (.int .i64 a.int), .d (.int .i64 a.scale), .d (.str a.text), .tr 23 ⟨a.list.length, 0, [], none⟩, .tr 42 ⟨k, 0, [], none⟩]),
           (23, .tre a.list.length 0 6 (a.list.map owV)),
           (42, .tre k 0 7 ((a.fields.take k).map owF))]⟩) ?_ ?_
      · refine ⟨_, _, (Wk.nilTB 3 5 42 7 _ rfl rfl rfl (by decide)).trans (Wk.less ?_), 0, Nat.zero_le _, rfl, rfl⟩
        simp [put, go_sem]
      · rintro n s ⟨k, hk, rfl, rfl⟩
        by_cases hlt : k < a.fields.length
        · have hx := nth_encF hlt
          have hd : decide ((k : Int) < (a.fields.length : Int)) = true := by simp; omega
          have hc := h2 a.fields[k] (List.getElem_mem _)
          rw [CV, encV_eq, rV] at hc
          simp only [go_sem, hx, hd, Int.toNat_natCast, Nat.reduceAdd, Nat.reduceEqDiff, Nat.reduceBEq, Nat.reduceLeDiff, reduceCtorEq, ↓reduceIte]
          refine ⟨by simp; omega, wpsL_call rfl hc ⟨rfl, rfl, trivial⟩ ?_⟩
          simp only [go_sem, Nat.reduceAdd, Nat.reduceEqDiff, Nat.reduceBEq, Nat.reduceLeDiff, reduceCtorEq, ↓reduceIte]
          refine ⟨⟨by decide, by simp; omega⟩, rfl, a.fields.length - (k + 1), _, by omega, Wk.less ?_, k + 1, by omega, rfl, rfl⟩
          rw [List.take_succ_eq_append_getElem hlt, List.map_append]
          simp only [go_sem, wrap64s k (by omega), List.map_cons, List.map_nil, owF_eq a.fields[k], Nat.reduceAdd, Nat.reduceEqDiff, Nat.reduceBEq, Nat.reduceLeDiff, reduceCtorEq, ↓reduceIte]
        · have hd : decide ((k : Int) < (a.fields.length : Int)) = false := by simp; omega
          obtain rfl : k = a.fields.length := by omega
          simp only [go_sem, hd, List.take_length, Nat.reduceAdd, Nat.reduceEqDiff, Nat.reduceBEq, Nat.reduceLeDiff, reduceCtorEq, ↓reduceIte]

theorem call54t (a : Val) (h : Con Tryz.prog 54 [.d (encV a)] [] (rV a 23 42) [(23, .tre a.list.length 0 6 (a.list.map owV)), (42, .tre a.fields.length 0 7 (a.fields.map owF))]) (i j : Nat) (hij : i ≠ j) : CV a i j := by
  have := Con.two (ds := [encV a]) h (by decide) (by simp [rV, hputs, upd, inT, idsIn, idsInL]) i j hij
  simp [rV, Av.ren, renL] at this
  exact this
mutual
theorem walk54t : ∀ (a : Val), okV a → Con Tryz.prog 54 [.d (encV a)] [] (rV a 23 42) [(23, .tre a.list.length 0 6 (a.list.map owV)), (42, .tre a.fields.length 0 7 (a.fields.map owF))]
  | .mk k i s t l f, ha => by
    simp only [okV] at ha
    obtain ⟨a1, a2, a3, a4⟩ := ha
    exact step54t _ a1 a2 (fun x hx => call54t x (walk54ts l a3 x hx) 901 902 (by decide)) (fun x hx => call54t x.value (walk54tf f a4 x hx) 901 902 (by decide))
theorem walk54ts : ∀ (l : List Val), okVs l → ∀ x ∈ l, Con Tryz.prog 54 [.d (encV x)] [] (rV x 23 42) [(23, .tre x.list.length 0 6 (x.list.map owV)), (42, .tre x.fields.length 0 7 (x.fields.map owF))]
  | [], _, x, h => by cases h
  | v :: r, ho, x, h => by
    simp only [okVs] at ho
    by_cases e : x = v
    · rw [e]; exact walk54t v ho.1
    · exact walk54ts r ho.2 x ((List.mem_cons.1 h).resolve_left e)
theorem walk54tf : ∀ (l : List Fld), okFs l → ∀ x ∈ l, Con Tryz.prog 54 [.d (encV x.value)] [] (rV x.value 23 42) [(23, .tre x.value.list.length 0 6 (x.value.list.map owV)), (42, .tre x.value.fields.length 0 7 (x.value.fields.map owF))]
  | [], _, x, h => by cases h
  | .mk n v :: r, ho, x, h => by
    simp only [okFs, okF] at ho
    by_cases e : x = .mk n v
    · rw [e]; exact walk54t v ho.1
    · exact walk54tf r ho.2 x ((List.mem_cons.1 h).resolve_left e)
end

theorem step19t (a : Exp) (ha : a.value.length ≤ 68719476736) (ha2 : a.args.length ≤ 68719476736) (h1 : ∀ x ∈ a.value, CV x 901 902) (h2 : ∀ x ∈ a.args, CE x 901 902) :
    Con Tryz.prog 19 [.d (encE a)] [] (rE a 27 42) [(27, .tre a.value.length 0 6 (a.value.map owV)), (42, .tre a.args.length 0 5 (a.args.map owE))] := by
  refine ok19.con (k := true) (Nat.le_of_ble_eq_true rfl) (closed_puts (by simp [puts, put, closedH, objIn])) (by simp [rE, hputs, upd, inT, idsIn, idsInL]) ?_
  rw [encE_eq, rE]
  simp only [go_sem, ir19, Nat.reduceAdd, Nat.reduceEqDiff, Nat.reduceBEq, Nat.reduceLeDiff, reduceCtorEq, ↓reduceIte]
  refine wpc_loop (fun n s => ∃ k : Nat, k ≤ a.value.length ∧ n = a.value.length - k ∧
    s = ⟨[(1, .ref 1 0), (2, .ref 2 0), (3, .ref 3 0), (16, .d (.list 6 (a.value.map encV))), (17, .d (.int .i64 a.value.length)), (18, .d (.int .i64 k))],
      [(1, .box [.d (.int .i64 a.op), .d (.int .i64 a.int), .d (.str a.text), .d (.list 6 (a.value.map encV)), .d (.list 5 (a.args.map encE))]),
       (2, .box [.d (.int .i64 0), .d (.int .i64 0), .d (.str []), .d (.nil 6), .d (.nil 5)]),
       (3, .box [.d (.int .i64 a.op), .d (.int .i64 a.int), .d (.str a.text), .tr 27 ⟨k, 0, [], none⟩, .d (.nil 5)]),
       (27, .tre k 0 6 ((a.value.take k).map owV))]⟩) ?_ ?_
  · refine ⟨_, _, Wk.nilTB 3 3 27 6 _ rfl rfl rfl (by decide), 0, Nat.zero_le _, rfl, ?_⟩
    simp [put]
  · rintro n s ⟨k, hk, rfl, rfl⟩
    by_cases hlt : k < a.value.length
    · have hx := nth_encV hlt
      have hd : decide ((k : Int) < (a.value.length : Int)) = true := by simp; omega
      simp only [go_sem, hx, hd, Int.toNat_natCast, Nat.reduceAdd, Nat.reduceEqDiff, Nat.reduceBEq, Nat.reduceLeDiff, reduceCtorEq, ↓reduceIte]
      have hc := h1 a.value[k] (List.getElem_mem _)
      rw [CV, encV_eq, rV] at hc
      refine ⟨by simp; omega, wpsL_call rfl hc ⟨rfl, rfl, trivial⟩ ?_⟩
      simp only [go_sem, Nat.reduceAdd, Nat.reduceEqDiff, Nat.reduceBEq, Nat.reduceLeDiff, reduceCtorEq, ↓reduceIte]
      refine ⟨⟨by decide, by simp; omega⟩, rfl, a.value.length - (k + 1), _, by omega, Wk.less ?_, k + 1, by omega, rfl, rfl⟩
      rw [List.take_succ_eq_append_getElem hlt, List.map_append]
      simp only [go_sem, wrap64s k (by omega), List.map_cons, List.map_nil, owV_eq a.value[k], Nat.reduceAdd, Nat.reduceEqDiff, Nat.reduceBEq, Nat.reduceLeDiff, reduceCtorEq, ↓reduceIte]
    · have hd : decide ((k : Int) < (a.value.length : Int)) = false := by simp; omega
      obtain rfl : k = a.value.length := by omega
      simp only [go_sem, hd, List.take_length, Nat.reduceAdd, Nat.reduceEqDiff, Nat.reduceBEq, Nat.reduceLeDiff, reduceCtorEq, ↓reduceIte]
      refine wpc_loop (fun n s => ∃ k : Nat, k ≤ a.args.length ∧ n = a.args.length - k ∧
        s = ⟨[(2, .ref 2 0), (3, .ref 3 0), (31, .d (.list 5 (a.args.map encE))), (32, .d (.int .i64 a.args.length)), (33, .d (.int .i64 k))],
          [(2, .box [.d (.int .i64 0), .d (.int .i64 0), .d (.str []), .d (.nil 6), .d (.nil 5)]),
           (3, .box [.d (.int .i64 a.op), .d (.int .i64 a.int), .d (.str a.text), .tr 27 ⟨a.value.length, 0, [], none⟩, .tr 42 ⟨k, 0, [], none⟩]),
           (27, .tre a.value.length 0 6 (a.value.map owV)),
           (42, .tre k 0 5 ((a.args.take k).map owE))]⟩) ?_ ?_
      · refine ⟨_, _, (Wk.nilTB 3 4 42 5 _ rfl rfl rfl (by decide)).trans (Wk.less ?_), 0, Nat.zero_le _, rfl, rfl⟩
        simp [put, go_sem]
      · rintro n s ⟨k, hk, rfl, rfl⟩
        by_cases hlt : k < a.args.length
        · have hx := nth_encE hlt
          have hd : decide ((k : Int) < (a.args.length : Int)) = true := by simp; omega
          have hc := h2 a.args[k] (List.getElem_mem _)
          rw [CE, encE_eq, rE] at hc
          simp only [go_sem, hx, hd, Int.toNat_natCast, Nat.reduceAdd, Nat.reduceEqDiff, Nat.reduceBEq, Nat.reduceLeDiff, reduceCtorEq, ↓reduceIte]
          refine ⟨by simp; omega, wpsL_call rfl hc ⟨rfl, rfl, trivial⟩ ?_⟩
          simp only [go_sem, Nat.reduceAdd, Nat.reduceEqDiff, Nat.reduceBEq, Nat.reduceLeDiff, reduceCtorEq, ↓reduceIte]
          refine ⟨⟨by decide, by simp; omega⟩, rfl, a.args.length - (k + 1), _, by omega, Wk.less ?_, k + 1, by omega, rfl, rfl⟩
          rw [List.take_succ_eq_append_getElem hlt, List.map_append]
          simp only [go_sem, wrap64s k (by omega), List.map_cons, List.map_nil, owE_eq a.args[k], Nat.reduceAdd, Nat.reduceEqDiff, Nat.reduceBEq, Nat.reduceLeDiff, reduceCtorEq, ↓reduceIte]
        · have hd : decide ((k : Int) < (a.args.length : Int)) = false := by simp; omega
          obtain rfl : k = a.args.length := by omega
          simp only [go_sem, hd, List.take_length, Nat.reduceAdd, Nat.reduceEqDiff, Nat.reduceBEq, Nat.reduceLeDiff, reduceCtorEq, ↓reduceIte]

theorem call19t (a : Exp) (h : Con Tryz.prog 19 [.d (encE a)] [] (rE a 27 42) [(27, .tre a.value.length 0 6 (a.value.map owV)), (42, .tre a.args.length 0 5 (a.args.map owE))]) (i j : Nat) (hij : i ≠ j) : CE a i j := by
  have := Con.two (ds := [encE a]) h (by decide) (by simp [rE, hputs, upd, inT, idsIn, idsInL]) i j hij
  simp [rE, Av.ren, renL] at this
  exact this
mutual
theorem walk19t : ∀ (a : Exp), okE a → Con Tryz.prog 19 [.d (encE a)] [] (rE a 27 42) [(27, .tre a.value.length 0 6 (a.value.map owV)), (42, .tre a.args.length 0 5 (a.args.map owE))]
  | .mk o i t v l, ha => by
    simp only [okE] at ha
    obtain ⟨a1, a2, a3, a4⟩ := ha
    exact step19t _ a1 a2 (fun x hx => call54t x (walk54ts v a3 x hx) 901 902 (by decide)) (fun x hx => call19t x (walk19ts l a4 x hx) 901 902 (by decide))
theorem walk19ts : ∀ (l : List Exp), okEs l → ∀ x ∈ l, Con Tryz.prog 19 [.d (encE x)] [] (rE x 27 42) [(27, .tre x.value.length 0 6 (x.value.map owV)), (42, .tre x.args.length 0 5 (x.args.map owE))]
  | [], _, x, h => by cases h
  | v :: r, ho, x, h => by
    simp only [okEs] at ho
    by_cases e : x = v
    · rw [e]; exact walk19t v ho.1
    · exact walk19ts r ho.2 x ((List.mem_cons.1 h).resolve_left e)
end
end Go.Proofs

namespace Av
open Go
variable [Glb]

/-- a number with another last bit -/
def x1 (n : Int) : Int := IntKind.i64.wrap ((BitVec.ofInt 64 n ^^^ BitVec.ofInt 64 1).toNat)
def pkV : Val → Val
  | .mk k i s t l f => .mk (x1 k) i s t l f
def pkO : Exp → Exp
  | .mk o i t v a => .mk (x1 o) i t v a
mutual
def pkE : Exp → Exp
  | .mk o i t v a => .mk o i t (v.map pkV) (pkEs a)
def pkEs : List Exp → List Exp
  | [] => []
  | e :: r => pkO (pkE e) :: pkEs r
end
def pkOE (e : Exp) : Exp := pkO (pkE e)
theorem pkEs_map : ∀ l : List Exp, pkEs l = l.map pkOE
  | [] => by simp [pkEs]
  | e :: r => by simp [pkEs, pkEs_map r, pkOE]
theorem pkE_op (e : Exp) : (pkE e).op = e.op := by cases e; rfl
theorem pkE_int (e : Exp) : (pkE e).int = e.int := by cases e; rfl
theorem pkE_text (e : Exp) : (pkE e).text = e.text := by cases e; rfl
theorem pkE_value (e : Exp) : (pkE e).value = e.value.map pkV := by cases e; rfl
theorem pkE_args (e : Exp) : (pkE e).args = e.args.map pkOE := by cases e; simp only [pkE, pkEs_map, Exp.args]
theorem owV_pk (v : Val) : owV (pkV v) = .agg [.int .i64 (x1 v.kind), .int .i64 v.int, .int .i64 v.scale, .str v.text, .own 6 (v.list.map owV), .own 7 (v.fields.map owF)] := by
  rw [owV_eq]; cases v; rfl
theorem owE_pk (e : Exp) : owE (pkE e) = .agg [.int .i64 e.op, .int .i64 e.int, .str e.text, .own 6 ((e.value.map pkV).map owV), .own 5 ((e.args.map pkOE).map owE)] := by
  rw [owE_eq, pkE_op, pkE_int, pkE_text, pkE_value, pkE_args]
theorem owE_pkO (e : Exp) : owE (pkOE e) = .agg [.int .i64 (x1 e.op), .int .i64 e.int, .str e.text, .own 6 ((e.value.map pkV).map owV), .own 5 ((e.args.map pkOE).map owE)] := by
  have h : ∀ x : Exp, owE (pkO x) = .agg [.int .i64 (x1 x.op), .int .i64 x.int, .str x.text, .own 6 (x.value.map owV), .own 5 (x.args.map owE)] := fun x => by rw [owE_eq]; cases x; rfl
  rw [pkOE, h, pkE_op, pkE_int, pkE_text, pkE_value, pkE_args]

section
variable [Rls] {P : Program}
/-- a call that is handed handles of one tree, at another number -/
theorem Con.one {f : Nat} {args : List Av} {v : Av} {a1 b1 s1 a2 b2 s2 : Nat} {X Y : List Dat} (h : Con P f args [(1000, .tre a1 b1 s1 X)] v [(1000, .tre a2 b2 s2 Y)])
    (hargs : ∀ c ∈ args, inT (get [(1000, Obj.tre a1 b1 s1 X)]) c) (hv : inT (hputs (get [(1000, Obj.tre a1 b1 s1 X)]) [(1000, .tre a2 b2 s2 Y)]) v) (i : Nat) :
    CallOK P f (args.map (Av.ren fun _ => i)) [(i, some (.tre a1 b1 s1 X))] (v.ren fun _ => i) [(i, .tre a2 b2 s2 Y)] := by
  have hd : ∀ n, (get [(1000, Obj.tre a1 b1 s1 X)] n).isSome = true → n = 1000 := by
    intro n hn
    simp only [get] at hn
    split at hn
    · rename_i e; exact e.symm
    · cases hn
  have hd' : ∀ n, (hputs (get [(1000, Obj.tre a1 b1 s1 X)]) [(1000, .tre a2 b2 s2 Y)] n).isSome = true → n = 1000 := by
    intro n hn
    simp only [hputs, upd] at hn
    split at hn
    · assumption
    · exact hd n hn
  have := Con.call h (fun _ => i) (by intro n hn; rw [hd n hn]; exact Nat.le_refl _) (by intro m n hm hn _; rw [hd' m hm, hd' n hn]) hargs (by
      intro n o hn
      simp only [get] at hn
      split at hn
      · cases hn; trivial
      · cases hn) [] (by
      intro e he
      simp only [List.mem_singleton] at he
      subst he
      exact .inl rfl) (by
      intro n o hn
      simp only [hputs, upd] at hn
      split at hn
      · cases hn; trivial
      · simp only [get] at hn
        split at hn
        · cases hn; trivial
        · cases hn) hv
  simpa only [List.map_cons, List.map_nil, Obj.ren, List.append_nil] using this
/-- .. of two -/
theorem Con.pair {f : Nat} {args : List Av} {v : Av} {a1 b1 s1 a2 b2 s2 a3 b3 s3 a4 b4 s4 : Nat} {X Y Z W : List Dat} (h : Con P f args [(1000, .tre a1 b1 s1 X), (1001, .tre a2 b2 s2 Y)] v [(1000, .tre a3 b3 s3 Z), (1001, .tre a4 b4 s4 W)])
    (hargs : ∀ c ∈ args, inT (get [(1000, Obj.tre a1 b1 s1 X), (1001, .tre a2 b2 s2 Y)]) c) (hv : inT (hputs (get [(1000, Obj.tre a1 b1 s1 X), (1001, .tre a2 b2 s2 Y)]) [(1000, .tre a3 b3 s3 Z), (1001, .tre a4 b4 s4 W)]) v) (i j : Nat) (hij : i ≠ j) :
    CallOK P f (args.map (Av.ren fun n => if n = 1000 then i else j)) [(i, some (.tre a1 b1 s1 X)), (j, some (.tre a2 b2 s2 Y))] (v.ren fun n => if n = 1000 then i else j) [(i, .tre a3 b3 s3 Z), (j, .tre a4 b4 s4 W)] := by
  have hd : ∀ n, (get [(1000, Obj.tre a1 b1 s1 X), (1001, .tre a2 b2 s2 Y)] n).isSome = true → n = 1000 ∨ n = 1001 := by
    intro n hn
    simp only [get] at hn
    split at hn
    · rename_i e; exact .inl e.symm
    · split at hn
      · rename_i e; exact .inr e.symm
      · cases hn
  have hd' : ∀ n, (hputs (get [(1000, Obj.tre a1 b1 s1 X), (1001, .tre a2 b2 s2 Y)]) [(1000, .tre a3 b3 s3 Z), (1001, .tre a4 b4 s4 W)] n).isSome = true → n = 1000 ∨ n = 1001 := by
    intro n hn
    simp only [hputs, upd] at hn
    split at hn
    · rename_i e; exact .inr e
    · split at hn
      · rename_i e; exact .inl e
      · exact hd n hn
  have := Con.call h (fun n => if n = 1000 then i else j) (by intro n hn; rcases hd n hn with rfl | rfl <;> decide) (by
      intro m n hm hn e
      rcases hd' m hm with rfl | rfl <;> rcases hd' n hn with rfl | rfl
      · rfl
      · exact absurd e hij
      · exact absurd e.symm hij
      · rfl) hargs (by
      intro n o hn
      simp only [get] at hn
      split at hn
      · cases hn; trivial
      · split at hn
        · cases hn; trivial
        · cases hn) [] (by
      intro e he
      simp only [List.mem_cons, List.not_mem_nil, or_false] at he
      rcases he with rfl | rfl
      · exact .inl rfl
      · exact .inl rfl) (by
      intro n o hn
      simp only [hputs, upd] at hn
      split at hn
      · cases hn; trivial
      · split at hn
        · cases hn; trivial
        · simp only [get] at hn
          split at hn
          · cases hn; trivial
          · split at hn
            · cases hn; trivial
            · cases hn) hv
  simpa only [List.map_cons, List.map_nil, Obj.ren, List.append_nil, if_true, show (1001 : Nat) ≠ 1000 from by decide, if_false] using this
end
end Av

namespace Go.Proofs
open Go Av
/-- manifold/manifoldlaw16.ExprEquals -/
def ir4 : Ic :=
  .seq (.dn (.reg (
    .op (some 2) (.box (.t 0)) <|
    .op (some 3) (.box (.t 1)) <|
    .op (some 4) (.mov (.k (.bool false))) <|
    .nil)) [0, 1, 4]) <|
  .seq (.dn (.regd [(1, 2), (0, 4), (1, 4), (2, 4), (3, 4), (0, 5), (1, 5), (2, 5), (3, 5), (4, 5)] (
    .op (some 7) (.ld (some 5) (.t 2)) <|
    .call (some 8) (.fn 19) [(.t 7)] <|
    .op (some 9) (.ld (some 5) (.t 2)) <|
    .call (some 10) (.fn 19) [(.t 9)] <|
    .op (some 5) (.new [(.int .i64 0), (.int .i64 0), (.str []), (.nil 6), (.nil 5)]) <|
    .op (some 6) (.new [(.int .i64 0), (.int .i64 0), (.str []), (.nil 6), (.nil 5)]) <|
    .op none (.sto (some 5) (.t 5) (.t 8)) <|
    .op none (.sto (some 5) (.t 6) (.t 10)) <|
    .nil)) [7, 8, 9, 10]) <|
  .seq (.seq (.dn (.regd [(5, 6), (5, 7), (25, 26)] (
    .call (some 11) (.fn 20) [] <|
    .op (some 12) (.not (.t 11)) <|
    .op (some 13) (.mov (.t 12)) <|
    .sc 13 false (
      .op (some 14) (.ld (some 5) (.t 2)) <|
      .op (some 15) (.ld (some 5) (.t 3)) <|
      .call (some 16) (.fn 21) [(.t 14), (.t 15)] <|
      .op (some 17) (.ld (some 5) (.t 2)) <|
      .op (some 18) (.ld (some 5) (.t 3)) <|
      .call (some 19) (.fn 22) [(.t 17), (.t 18)] <|
      .op (some 20) (.bin .bne (.t 16) (.t 19)) <|
      .nil) (.t 20) 21 <|
    .op (some 22) (.mov (.t 21)) <|
    .sc 22 false (
      .op (some 23) (.ld (some 5) (.t 5)) <|
      .op (some 24) (.ld (some 5) (.t 2)) <|
      .call (some 25) (.fn 22) [(.t 23), (.t 24)] <|
      .op (some 26) (.not (.t 25)) <|
      .nil) (.t 26) 27 <|
    .op (some 28) (.mov (.t 27)) <|
    .sc 28 false (
      .op (some 29) (.ld (some 5) (.t 5)) <|
      .op (some 30) (.ld (some 5) (.t 6)) <|
      .call (some 31) (.fn 21) [(.t 29), (.t 30)] <|
      .op (some 32) (.not (.t 31)) <|
      .nil) (.t 32) 33 <|
    .op (some 34) (.mov (.t 33)) <|
    .sc 34 false (
      .op (some 35) (.ld (some 5) (.t 2)) <|
      .call (some 36) (.fn 23) [(.t 35)] <|
      .op (some 37) (.ld (some 5) (.t 2)) <|
      .call (some 38) (.fn 24) [(.t 37)] <|
      .op (some 39) (.bin .neq (.t 36) (.t 38)) <|
      .nil) (.t 39) 40 <|
    .nil)) [3, 11, 12, 13, 14, 15, 16, 17, 18, 19, 20, 21, 22, 23, 24, 25, 26, 27, 28, 29, 30, 31, 32, 33, 34, 35, 36, 37, 38, 39]) <|
  .dn (.ite (.t 40) (.seq (.dn (.reg (
      .op (some 4) (.mov (.k (.bool false))) <|
      .nil)) [2, 5, 6, 40]) <|
    .ret)
    (.skip)) [4, 40]) <|
  .seq (.dn (.reg (
    .op (some 41) (.ld (some 5) (.t 5)) <|
    .call (some 42) (.fn 25) [(.t 41)] <|
    .nil)) [5, 41, 42]) <|
  .seq (.dn (.reg (
    .op (some 43) (.ld (some 5) (.t 6)) <|
    .op (some 44) (.ld (some 5) (.t 2)) <|
    .call (some 45) (.fn 22) [(.t 43), (.t 44)] <|
    .op (some 4) (.mov (.t 45)) <|
    .nil)) [2, 6, 43, 44, 45]) <|
  .ret
theorem ok4 : FnOk Tryz.prog 4 46 ir4 [.tmp 4] := FnOk.of Tryz.func4 (by kernel_rfl) (by kernel_rfl) (by kernel_rfl) (by kernel_rfl)
/-- manifold/manifoldlaw16.same -/
def ir22 : Ic :=
  .seq (.dn (.reg (
    .op (some 2) (.box (.t 0)) <|
    .op (some 3) (.box (.t 1)) <|
    .op (some 4) (.mov (.k (.bool false))) <|
    .nil)) [0, 1, 4]) <|
  .seq (.seq (.dn (.reg (
    .op (some 7) (.fa (.t 2) 0) <|
    .op (some 8) (.ld none (.t 7)) <|
    .op (some 9) (.fa (.t 3) 0) <|
    .op (some 10) (.ld none (.t 9)) <|
    .op (some 11) (.bin .neq (.t 8) (.t 10)) <|
    .op (some 12) (.mov (.t 11)) <|
    .sc 12 false (
      .op (some 13) (.fa (.t 2) 1) <|
      .op (some 14) (.ld none (.t 13)) <|
      .op (some 15) (.fa (.t 3) 1) <|
      .op (some 16) (.ld none (.t 15)) <|
      .op (some 17) (.bin .neq (.t 14) (.t 16)) <|
      .nil) (.t 17) 18 <|
    .op (some 19) (.mov (.t 18)) <|
    .sc 19 false (
      .op (some 20) (.fa (.t 2) 2) <|
      .op (some 21) (.ld none (.t 20)) <|
      .op (some 22) (.fa (.t 3) 2) <|
      .op (some 23) (.ld none (.t 22)) <|
      .op (some 24) (.bin .sne (.t 21) (.t 23)) <|
      .nil) (.t 24) 25 <|
    .op (some 26) (.mov (.t 25)) <|
    .sc 26 false (
      .op (some 27) (.fa (.t 2) 3) <|
      .op (some 28) (.ld none (.t 27)) <|
      .op (some 29) (.len (.t 28)) <|
      .op (some 30) (.fa (.t 3) 3) <|
      .op (some 31) (.ld none (.t 30)) <|
      .op (some 32) (.len (.t 31)) <|
      .op (some 33) (.bin .neq (.t 29) (.t 32)) <|
      .nil) (.t 33) 34 <|
    .op (some 35) (.mov (.t 34)) <|
    .sc 35 false (
      .op (some 36) (.fa (.t 2) 4) <|
      .op (some 37) (.ld none (.t 36)) <|
      .op (some 38) (.len (.t 37)) <|
      .op (some 39) (.fa (.t 3) 4) <|
      .op (some 40) (.ld none (.t 39)) <|
      .op (some 41) (.len (.t 40)) <|
      .op (some 42) (.bin .neq (.t 38) (.t 41)) <|
      .nil) (.t 42) 43 <|
    .nil)) [7, 8, 9, 10, 11, 12, 13, 14, 15, 16, 17, 18, 19, 20, 21, 22, 23, 24, 25, 26, 27, 28, 29, 30, 31, 32, 33, 34, 35, 36, 37, 38, 39, 40, 41, 42]) <|
  .dn (.ite (.t 43) (.seq (.dn (.reg (
      .op (some 4) (.mov (.k (.bool false))) <|
      .nil)) [2, 3, 43]) <|
    .ret)
    (.skip)) [4, 43]) <|
  .seq (.seq (.reg (
    .op (some 5) (.mov (.k (.int .i64 0))) <|
    .nil)) <|
  .dn (.block 0 (
    .loop (
      .seq (.seq (.dn (.reg (
        .op (some 44) (.mov (.t 5)) <|
        .op (some 45) (.fa (.t 2) 3) <|
        .op (some 46) (.ld none (.t 45)) <|
        .op (some 47) (.len (.t 46)) <|
        .op (some 48) (.bin .lss (.t 44) (.t 47)) <|
        .nil)) [44, 45, 46, 47]) <|
      .dn (.ite (.t 48) (.skip)
        (.exit 0)) [48]) <|
      .seq (.dn (.block 1 (
        .seq (.dn (.reg (
          .op (some 51) (.fa (.t 2) 3) <|
          .op (some 52) (.ld none (.t 51)) <|
          .op (some 53) (.mov (.t 5)) <|
          .op (some 54) (.ixa true 6 (.t 52) (.t 53)) <|
          .op (some 55) (.ld (some 6) (.t 54)) <|
          .op (some 56) (.fa (.t 3) 3) <|
          .op (some 57) (.ld none (.t 56)) <|
          .op (some 58) (.mov (.t 5)) <|
          .op (some 59) (.ixa true 6 (.t 57) (.t 58)) <|
          .op (some 60) (.ld (some 6) (.t 59)) <|
          .call (some 61) (.fn 17) [(.t 55), (.t 60)] <|
          .op (some 62) (.not (.t 61)) <|
          .nil)) [51, 52, 53, 54, 55, 56, 57, 58, 59, 60, 61]) <|
        .dn (.ite (.t 62) (.seq (.dn (.reg (
            .op (some 4) (.mov (.k (.bool false))) <|
            .nil)) [2, 3, 5, 62]) <|
          .ret)
          (.skip)) [4, 62])) [51, 52, 53, 54, 55, 56, 57, 58, 59, 60, 61, 62, 4]) <|
      .dn (.reg (
        .op (some 49) (.mov (.t 5)) <|
        .op (some 50) (.bin .add (.t 49) (.k (.int .i64 1))) <|
        .op (some 5) (.mov (.t 50)) <|
        .nil)) [49, 50]))) [5, 44, 45, 46, 47, 48, 51, 52, 53, 54, 55, 56, 57, 58, 59, 60, 61, 62, 4, 49, 50]) <|
  .seq (.seq (.reg (
    .op (some 6) (.mov (.k (.int .i64 0))) <|
    .nil)) <|
  .dn (.block 2 (
    .loop (
      .seq (.seq (.dn (.reg (
        .op (some 63) (.mov (.t 6)) <|
        .op (some 64) (.fa (.t 2) 4) <|
        .op (some 65) (.ld none (.t 64)) <|
        .op (some 66) (.len (.t 65)) <|
        .op (some 67) (.bin .lss (.t 63) (.t 66)) <|
        .nil)) [63, 64, 65, 66]) <|
      .dn (.ite (.t 67) (.skip)
        (.exit 2)) [67]) <|
      .seq (.dn (.block 3 (
        .seq (.dn (.reg (
          .op (some 70) (.fa (.t 2) 4) <|
          .op (some 71) (.ld none (.t 70)) <|
          .op (some 72) (.mov (.t 6)) <|
          .op (some 73) (.ixa true 5 (.t 71) (.t 72)) <|
          .op (some 74) (.ld (some 5) (.t 73)) <|
          .op (some 75) (.fa (.t 3) 4) <|
          .op (some 76) (.ld none (.t 75)) <|
          .op (some 77) (.mov (.t 6)) <|
          .op (some 78) (.ixa true 5 (.t 76) (.t 77)) <|
          .op (some 79) (.ld (some 5) (.t 78)) <|
          .call (some 80) (.fn 22) [(.t 74), (.t 79)] <|
          .op (some 81) (.not (.t 80)) <|
          .nil)) [70, 71, 72, 73, 74, 75, 76, 77, 78, 79, 80]) <|
        .dn (.ite (.t 81) (.seq (.dn (.reg (
            .op (some 4) (.mov (.k (.bool false))) <|
            .nil)) [2, 3, 6, 81]) <|
          .ret)
          (.skip)) [4, 81])) [70, 71, 72, 73, 74, 75, 76, 77, 78, 79, 80, 81, 4]) <|
      .dn (.reg (
        .op (some 68) (.mov (.t 6)) <|
        .op (some 69) (.bin .add (.t 68) (.k (.int .i64 1))) <|
        .op (some 6) (.mov (.t 69)) <|
        .nil)) [68, 69]))) [2, 3, 6, 63, 64, 65, 66, 67, 70, 71, 72, 73, 74, 75, 76, 77, 78, 79, 80, 81, 4, 68, 69]) <|
  .seq (.reg (
    .op (some 4) (.mov (.k (.bool true))) <|
    .nil)) <|
  .ret
theorem ok22 : FnOk Tryz.prog 22 82 ir22 [.tmp 4] := FnOk.of Tryz.func22 (by kernel_rfl) (by kernel_rfl) (by kernel_rfl) (by kernel_rfl)
/-- manifold/expr.Size -/
def ir23 : Ic :=
  .seq (.dn (.reg (
    .op (some 1) (.box (.t 0)) <|
    .op (some 2) (.mov (.k (.int .i64 0))) <|
    .nil)) [0, 2]) <|
  .seq (.reg (
    .op (some 3) (.mov (.k (.int .i64 1))) <|
    .nil)) <|
  .seq (.seq (.dn (.reg (
    .op (some 6) (.fa (.t 1) 4) <|
    .op (some 7) (.ld none (.t 6)) <|
    .op (some 8) (.len (.t 7)) <|
    .op (some 9) (.mov (.k (.int .i64 0))) <|
    .nil)) [1, 6]) <|
  .dn (.block 0 (
    .loop (
      .seq (.reg (
        .op (some 10) (.bin .lss (.t 9) (.t 8)) <|
        .nil)) <|
      .seq (.dn (.ite (.t 10) (.skip)
        (.exit 0)) [10]) <|
      .seq (.dn (.block 1 (
        .seq (.dn (.reg (
          .op (some 11) (.ixa true 5 (.t 7) (.t 9)) <|
          .op (some 12) (.ld (some 5) (.t 11)) <|
          .op (some 5) (.new [(.int .i64 0), (.int .i64 0), (.str []), (.nil 6), (.nil 5)]) <|
          .op none (.sto (some 5) (.t 5) (.t 12)) <|
          .nil)) [11, 12]) <|
        .dn (.reg (
          .op (some 13) (.mov (.t 3)) <|
          .op (some 14) (.ld (some 5) (.t 5)) <|
          .call (some 15) (.fn 23) [(.t 14)] <|
          .op (some 16) (.bin .add (.t 13) (.t 15)) <|
          .op (some 3) (.mov (.t 16)) <|
          .nil)) [5, 13, 14, 15, 16])) [11, 12, 5, 13, 14, 15, 16]) <|
      .dn (.reg (
        .op (some 17) (.bin .add (.t 9) (.k (.int .i64 1))) <|
        .op (some 9) (.mov (.t 17)) <|
        .nil)) [17]))) [7, 8, 9, 10, 11, 12, 5, 13, 14, 15, 16, 17]) <|
  .seq (.dn (.reg (
    .op (some 18) (.mov (.t 3)) <|
    .op (some 2) (.mov (.t 18)) <|
    .nil)) [3, 18]) <|
  .ret
theorem ok23 : FnOk Tryz.prog 23 19 ir23 [.tmp 2] := FnOk.of Tryz.func23 (by kernel_rfl) (by kernel_rfl) (by kernel_rfl) (by kernel_rfl)
/-- manifold/manifoldlaw16.size -/
def ir24 : Ic :=
  .seq (.dn (.reg (
    .op (some 1) (.box (.t 0)) <|
    .op (some 2) (.mov (.k (.int .i64 0))) <|
    .nil)) [0, 2]) <|
  .seq (.reg (
    .op (some 3) (.mov (.k (.int .i64 1))) <|
    .nil)) <|
  .seq (.seq (.reg (
    .op (some 4) (.mov (.k (.int .i64 0))) <|
    .nil)) <|
  .dn (.block 0 (
    .loop (
      .seq (.seq (.dn (.reg (
        .op (some 5) (.mov (.t 4)) <|
        .op (some 6) (.fa (.t 1) 4) <|
        .op (some 7) (.ld none (.t 6)) <|
        .op (some 8) (.len (.t 7)) <|
        .op (some 9) (.bin .lss (.t 5) (.t 8)) <|
        .nil)) [5, 6, 7, 8]) <|
      .dn (.ite (.t 9) (.skip)
        (.exit 0)) [9]) <|
      .seq (.dn (.block 1 (
        .dn (.reg (
          .op (some 12) (.mov (.t 3)) <|
          .op (some 13) (.fa (.t 1) 4) <|
          .op (some 14) (.ld none (.t 13)) <|
          .op (some 15) (.mov (.t 4)) <|
          .op (some 16) (.ixa true 5 (.t 14) (.t 15)) <|
          .op (some 17) (.ld (some 5) (.t 16)) <|
          .call (some 18) (.fn 24) [(.t 17)] <|
          .op (some 19) (.bin .add (.t 12) (.t 18)) <|
          .op (some 3) (.mov (.t 19)) <|
          .nil)) [12, 13, 14, 15, 16, 17, 18, 19])) [12, 13, 14, 15, 16, 17, 18, 19]) <|
      .dn (.reg (
        .op (some 10) (.mov (.t 4)) <|
        .op (some 11) (.bin .add (.t 10) (.k (.int .i64 1))) <|
        .op (some 4) (.mov (.t 11)) <|
        .nil)) [10, 11]))) [1, 4, 5, 6, 7, 8, 9, 12, 13, 14, 15, 16, 17, 18, 19, 10, 11]) <|
  .seq (.dn (.reg (
    .op (some 20) (.mov (.t 3)) <|
    .op (some 2) (.mov (.t 20)) <|
    .nil)) [3, 20]) <|
  .ret
theorem ok24 : FnOk Tryz.prog 24 21 ir24 [.tmp 2] := FnOk.of Tryz.func24 (by kernel_rfl) (by kernel_rfl) (by kernel_rfl) (by kernel_rfl)
/-- manifold/manifoldlaw16.poke -/
def ir25 : Ic :=
  .seq (.dn (.reg (
    .op (some 1) (.box (.t 0)) <|
    .nil)) [0]) <|
  .seq (.seq (.reg (
    .op (some 2) (.mov (.k (.int .i64 0))) <|
    .nil)) <|
  .dn (.block 0 (
    .loop (
      .seq (.seq (.dn (.reg (
        .op (some 4) (.mov (.t 2)) <|
        .op (some 5) (.fa (.t 1) 3) <|
        .op (some 6) (.ld none (.t 5)) <|
        .op (some 7) (.len (.t 6)) <|
        .op (some 8) (.bin .lss (.t 4) (.t 7)) <|
        .nil)) [4, 5, 6, 7]) <|
      .dn (.ite (.t 8) (.skip)
        (.exit 0)) [8]) <|
      .seq (.dn (.block 1 (
        .dn (.reg (
          .op (some 11) (.fa (.t 1) 3) <|
          .op (some 12) (.ld none (.t 11)) <|
          .op (some 13) (.mov (.t 2)) <|
          .op (some 14) (.fa (.t 1) 3) <|
          .op (some 15) (.ld none (.t 14)) <|
          .op (some 16) (.mov (.t 2)) <|
          .op (some 17) (.ixa true 6 (.t 15) (.t 16)) <|
          .op (some 18) (.fa (.t 17) 0) <|
          .op (some 19) (.ld none (.t 18)) <|
          .op (some 20) (.bit .xor (.t 19) (.k (.int .i64 1))) <|
          .op (some 21) (.ixa true 6 (.t 12) (.t 13)) <|
          .op (some 22) (.fa (.t 21) 0) <|
          .op none (.sto none (.t 22) (.t 20)) <|
          .nil)) [11, 12, 13, 14, 15, 16, 17, 18, 19, 20, 21, 22])) [11, 12, 13, 14, 15, 16, 17, 18, 19, 20, 21, 22]) <|
      .dn (.reg (
        .op (some 9) (.mov (.t 2)) <|
        .op (some 10) (.bin .add (.t 9) (.k (.int .i64 1))) <|
        .op (some 2) (.mov (.t 10)) <|
        .nil)) [9, 10]))) [2, 4, 5, 6, 7, 8, 11, 12, 13, 14, 15, 16, 17, 18, 19, 20, 21, 22, 9, 10]) <|
  .seq (.reg (
    .op (some 3) (.mov (.k (.int .i64 0))) <|
    .nil)) <|
  .dn (.block 2 (
    .loop (
      .seq (.seq (.dn (.reg (
        .op (some 23) (.mov (.t 3)) <|
        .op (some 24) (.fa (.t 1) 4) <|
        .op (some 25) (.ld none (.t 24)) <|
        .op (some 26) (.len (.t 25)) <|
        .op (some 27) (.bin .lss (.t 23) (.t 26)) <|
        .nil)) [23, 24, 25, 26]) <|
      .dn (.ite (.t 27) (.skip)
        (.exit 2)) [27]) <|
      .seq (.dn (.block 3 (
        .seq (.dn (.reg (
          .op (some 30) (.fa (.t 1) 4) <|
          .op (some 31) (.ld none (.t 30)) <|
          .op (some 32) (.mov (.t 3)) <|
          .op (some 33) (.ixa true 5 (.t 31) (.t 32)) <|
          .op (some 34) (.ld (some 5) (.t 33)) <|
          .call (some 35) (.fn 25) [(.t 34)] <|
          .nil)) [30, 31, 32, 33, 34, 35]) <|
        .dn (.reg (
          .op (some 36) (.fa (.t 1) 4) <|
          .op (some 37) (.ld none (.t 36)) <|
          .op (some 38) (.mov (.t 3)) <|
          .op (some 39) (.fa (.t 1) 4) <|
          .op (some 40) (.ld none (.t 39)) <|
          .op (some 41) (.mov (.t 3)) <|
          .op (some 42) (.ixa true 5 (.t 40) (.t 41)) <|
          .op (some 43) (.fa (.t 42) 0) <|
          .op (some 44) (.ld none (.t 43)) <|
          .op (some 45) (.bit .xor (.t 44) (.k (.int .i64 1))) <|
          .op (some 46) (.ixa true 5 (.t 37) (.t 38)) <|
          .op (some 47) (.fa (.t 46) 0) <|
          .op none (.sto none (.t 47) (.t 45)) <|
          .nil)) [36, 37, 38, 39, 40, 41, 42, 43, 44, 45, 46, 47])) [30, 31, 32, 33, 34, 35, 36, 37, 38, 39, 40, 41, 42, 43, 44, 45, 46, 47]) <|
      .dn (.reg (
        .op (some 28) (.mov (.t 3)) <|
        .op (some 29) (.bin .add (.t 28) (.k (.int .i64 1))) <|
        .op (some 3) (.mov (.t 29)) <|
        .nil)) [28, 29]))) [1, 3, 23, 24, 25, 26, 27, 30, 31, 32, 33, 34, 35, 36, 37, 38, 39, 40, 41, 42, 43, 44, 45, 46, 47, 28, 29]
theorem ok25 : FnOk Tryz.prog 25 48 ir25 [] := FnOk.of Tryz.func25 (by kernel_rfl) (by kernel_rfl) (by kernel_rfl) (by kernel_rfl)
end Go.Proofs

namespace Go.Proofs
open Go Av
theorem nth_mixV {vs : List Val} {k : Nat} (h : k < vs.length) : nth ((mix pkV vs k).map owV) k = .agg [.int .i64 vs[k].kind, .int .i64 vs[k].int, .int .i64 vs[k].scale, .str vs[k].text, .own 6 (vs[k].list.map owV), .own 7 (vs[k].fields.map owF)] := by
  rw [nth, List.getD_eq_getElem?_getD, List.getElem?_map, mix_get pkV vs k h, ← owV_eq]; rfl
theorem nth_mixE {es : List Exp} {k : Nat} (h : k < es.length) : nth ((mix pkOE es k).map owE) k = .agg [.int .i64 es[k].op, .int .i64 es[k].int, .str es[k].text, .own 6 (es[k].value.map owV), .own 5 (es[k].args.map owE)] := by
  rw [nth, List.getD_eq_getElem?_getD, List.getElem?_map, mix_get pkOE es k h, ← owE_eq]; rfl
theorem setEl_agg (cs : List Dat) (c : Nat) (y : Dat) : setEl (.agg cs) c y = .agg (cs.set c y) := rfl
theorem bit_x1 (n : Int) : bitD .xor .i64 n .i64 1 = some (True, x1 n) := rfl
theorem mixV_set {vs : List Val} {k : Nat} (h : k < vs.length) :
    ((mix pkV vs k).map owV).set k (setEl (((mix pkV vs k).map owV).getD k .opq) 0 (.int .i64 (x1 vs[k].kind))) = (mix pkV vs (k + 1)).map owV := by
  have e := nth_mixV h
  rw [nth] at e
  rw [e, setEl_agg, ← mix_set pkV vs k h, List.map_set, owV_pk]
  rfl

/-- the expressions while one of them is turned -/
def midE (es : List Exp) (k : Nat) : List Dat := ((mix pkOE es k).map owE).set k (owE (pkE (es.getD k (.mk 0 0 [] [] []))))
theorem mixE_two {es : List Exp} {k : Nat} (h : k < es.length) :
    (((mix pkOE es k).map owE).set k (setEl (((mix pkOE es k).map owE).getD k .opq) 3 (.own 6 ((es[k].value.map pkV).map owV)))).set k
      (setEl ((((mix pkOE es k).map owE).set k (setEl (((mix pkOE es k).map owE).getD k .opq) 3 (.own 6 ((es[k].value.map pkV).map owV)))).getD k .opq) 4 (.own 5 ((es[k].args.map pkOE).map owE))) = midE es k := by
  have e := nth_mixE h
  rw [nth] at e
  have hl : k < ((mix pkOE es k).map owE).length := by rw [List.length_map, mix_len]; exact h
  have g : ∀ E : Dat, (((mix pkOE es k).map owE).set k E).getD k .opq = E := fun E => by rw [List.getD_eq_getElem?_getD, List.getElem?_set_self hl]; rfl
  have e2 : es.getD k (.mk 0 0 [] [] []) = es[k] := by rw [List.getD_eq_getElem?_getD, List.getElem?_eq_getElem h]; rfl
  rw [g, List.set_set, e, setEl_agg, setEl_agg, midE, e2, owE_pk]
  rfl
theorem nth_midE {es : List Exp} {k : Nat} (h : k < es.length) : nth (midE es k) k = .agg [.int .i64 es[k].op, .int .i64 es[k].int, .str es[k].text, .own 6 ((es[k].value.map pkV).map owV), .own 5 ((es[k].args.map pkOE).map owE)] := by
  have hl : k < ((mix pkOE es k).map owE).length := by rw [List.length_map, mix_len]; exact h
  have e2 : es.getD k (.mk 0 0 [] [] []) = es[k] := by rw [List.getD_eq_getElem?_getD, List.getElem?_eq_getElem h]; rfl
  rw [midE, nth, List.getD_eq_getElem?_getD, List.getElem?_set_self hl, e2, owE_pk]
  rfl
theorem midE_set {es : List Exp} {k : Nat} (h : k < es.length) : (midE es k).set k (setEl ((midE es k).getD k .opq) 0 (.int .i64 (x1 es[k].op))) = (mix pkOE es (k + 1)).map owE := by
  have e := nth_midE h
  rw [nth] at e
  rw [e, setEl_agg, midE, List.set_set, ← mix_set pkOE es k h, List.map_set, owE_pkO]
  rfl

/-- what a call of poke asks, below an element of a tree -/
abbrev PK (P : Program) (f : Nat) (e : Exp) (i : Nat) : Prop := ∀ (z ver sv : Nat) (xs ys : List Dat) (p : List (Nat × Nat)) (k : Nat), nodeAt (.own z xs) p = some (.own 5 ys) → ys[k]? = some (owE e) →
  CallOK P f [.agg [.d (.int .i64 e.op), .d (.int .i64 e.int), .d (.str e.text), .tr i ⟨ver, sv, p ++ [(k, 3)], none⟩, .tr i ⟨ver, sv, p ++ [(k, 4)], none⟩]] [(i, some (.tre ver sv z xs))] (.tup [])
    [(i, .tre ver sv z (putc z (putc z xs p k 3 6 ((e.value.map pkV).map owV)) p k 4 5 ((e.args.map pkOE).map owE)))]

theorem step25 (P : Program) (e : Exp) (hv : e.value.length ≤ 68719476736) (ha : e.args.length ≤ 68719476736) (hr : ∀ x ∈ e.args, PK P 25 x 1000)
    (z ver sv : Nat) (xs ys : List Dat) (p : List (Nat × Nat)) (k : Nat) (hp : nodeAt (.own z xs) p = some (.own 5 ys)) (hk : ys[k]? = some (owE e)) :
    wpc P D0 ir25 (Av.Ends [] [(1000, .tre ver sv z xs)] (.tup []) [(1000, .tre ver sv z (putc z (putc z xs p k 3 6 ((e.value.map pkV).map owV)) p k 4 5 ((e.args.map pkOE).map owE)))])
      ⟨enum 0 [.agg [.d (.int .i64 e.op), .d (.int .i64 e.int), .d (.str e.text), .tr 1000 ⟨ver, sv, p ++ [(k, 3)], none⟩, .tr 1000 ⟨ver, sv, p ++ [(k, 4)], none⟩]], [(1000, .tre ver sv z xs)]⟩ := by
  have c3 : cellAt ys k 3 = some (.own 6 (e.value.map owV)) := by rw [cellAt, hk, owE_eq]; rfl
  have c4 : cellAt ys k 4 = some (.own 5 (e.args.map owE)) := by rw [cellAt, hk, owE_eq]; rfl
  have n3 : ∀ V, nodeAt (.own z (putc z xs p k 3 6 V)) (p ++ [(k, 3)]) = some (.own 6 V) := fun V => putc_node hp c3
  have s3 : ∀ V i off y, setAt (.own z (putc z xs p k 3 6 V)) (p ++ [(k, 3)]) i off y = .own z (putc z xs p k 3 6 (V.set i (setEl (V.getD i .opq) off y))) := fun V i off y => putc_stoO hp c3
  simp only [go_sem, ir25, Nat.reduceAdd, Nat.reduceEqDiff, Nat.reduceBEq, Nat.reduceLeDiff, reduceCtorEq, ↓reduceIte]
  refine wpc_loop (fun n s => ∃ j : Nat, j ≤ e.value.length ∧ n = e.value.length - j ∧
    s = ⟨[(1, .ref 1 0), (2, .d (.int .i64 j))],
      [(1000, .tre ver sv z (putc z xs p k 3 6 ((mix pkV e.value j).map owV))), (1, .box [.d (.int .i64 e.op), .d (.int .i64 e.int), .d (.str e.text), .tr 1000 ⟨ver, sv, p ++ [(k, 3)], none⟩, .tr 1000 ⟨ver, sv, p ++ [(k, 4)], none⟩])]⟩) ?_ ?_
  · refine ⟨_, _, Wk.refl _, 0, Nat.zero_le _, rfl, ?_⟩
    rw [mix_zero, putc_self hp c3]
    rfl
  · rintro n s ⟨j, hj, rfl, rfl⟩
    by_cases hlt : j < e.value.length
    · have hx := nth_mixV hlt
      have hd : decide ((j : Int) < (e.value.length : Int)) = true := by simp; omega
      have hl : ((mix pkV e.value j).map owV).length = e.value.length := by rw [List.length_map, mix_len]
      have hs := s3 ((mix pkV e.value j).map owV) j 0 (.int .i64 (x1 e.value[j].kind))
      rw [mixV_set hlt] at hs
      simp only [go_sem, n3, hs, hl, hx, hd, bit_x1, Int.toNat_natCast, isOwn, List.any_cons, List.any_nil, Nat.reduceAdd, Nat.reduceEqDiff, Nat.reduceBEq, Nat.reduceLeDiff, reduceCtorEq, ↓reduceIte]
      refine ⟨⟨by omega, by omega⟩, ⟨hlt, by decide⟩, ⟨by omega, by omega⟩, hlt, e.value.length - (j + 1), _, by omega, Wk.less ?_, j + 1, by omega, rfl, rfl⟩
      simp only [go_sem, wrap64s j (by omega), Nat.reduceAdd, Nat.reduceEqDiff, Nat.reduceBEq, Nat.reduceLeDiff, reduceCtorEq, ↓reduceIte]
    · have hd : decide ((j : Int) < (e.value.length : Int)) = false := by simp; omega
      obtain rfl : j = e.value.length := by omega
      have hl : ((mix pkV e.value e.value.length).map owV).length = e.value.length := by rw [List.length_map, mix_len]
      simp only [go_sem, n3, hl, hd, Nat.reduceAdd, Nat.reduceEqDiff, Nat.reduceBEq, Nat.reduceLeDiff, reduceCtorEq, ↓reduceIte]
      rw [mix_all]
      generalize hX : putc z xs p k 3 6 ((e.value.map pkV).map owV) = X
      obtain ⟨y1, hp1, c41⟩ : ∃ y1, nodeAt (.own z X) p = some (.own 5 y1) ∧ cellAt y1 k 4 = some (.own 5 (e.args.map owE)) := by
        refine ⟨_, by rw [← hX]; exact putc_root hp c3, ?_⟩
        rw [cellAt_set1 rfl c3, if_neg (by simp)]
        exact c4
      clear hX n3 s3 c3 c4 hp hk hl hd
      have n4 : ∀ V, nodeAt (.own z (putc z X p k 4 5 V)) (p ++ [(k, 4)]) = some (.own 5 V) := fun V => putc_node hp1 c41
      have s4 : ∀ V i off y, setAt (.own z (putc z X p k 4 5 V)) (p ++ [(k, 4)]) i off y = .own z (putc z X p k 4 5 (V.set i (setEl (V.getD i .opq) off y))) := fun V i off y => putc_stoO hp1 c41
      have q4 : ∀ V i off s' V', putc z (putc z X p k 4 5 V) (p ++ [(k, 4)]) i off s' V' = putc z X p k 4 5 (V.set i (setEl (V.getD i .opq) off (.own s' V'))) := fun V i off s' V' => putc_putc hp1 c41
      refine wpc_loop (fun n s => ∃ j : Nat, j ≤ e.args.length ∧ n = e.args.length - j ∧
        s = ⟨[(1, .ref 1 0), (3, .d (.int .i64 j))],
          [(1000, .tre ver sv z (putc z X p k 4 5 ((mix pkOE e.args j).map owE))), (1, .box [.d (.int .i64 e.op), .d (.int .i64 e.int), .d (.str e.text), .tr 1000 ⟨ver, sv, p ++ [(k, 3)], none⟩, .tr 1000 ⟨ver, sv, p ++ [(k, 4)], none⟩])]⟩) ?_ ?_
      · refine ⟨_, _, Wk.refl _, 0, Nat.zero_le _, rfl, ?_⟩
        rw [mix_zero, putc_self hp1 c41]
        rfl
      · rintro n s ⟨j, hj, rfl, rfl⟩
        by_cases hlt : j < e.args.length
        · have hx := nth_mixE hlt
          have hd : decide ((j : Int) < (e.args.length : Int)) = true := by simp; omega
          have hl : ((mix pkOE e.args j).map owE).length = e.args.length := by rw [List.length_map, mix_len]
          have hg : ((mix pkOE e.args j).map owE)[j]? = some (owE e.args[j]) := by rw [List.getElem?_map, mix_get pkOE e.args j hlt]; rfl
          have hc := hr e.args[j] (List.getElem_mem hlt) z ver sv _ _ (p ++ [(k, 4)]) j (n4 ((mix pkOE e.args j).map owE)) hg
          rw [q4, q4, mixE_two hlt] at hc
          have hx2 := nth_midE hlt
          have hl2 : (midE e.args j).length = e.args.length := by rw [midE, List.length_set, hl]
          simp only [go_sem, n4, hl, hx, hd, Int.toNat_natCast, Nat.reduceAdd, Nat.reduceEqDiff, Nat.reduceBEq, Nat.reduceLeDiff, reduceCtorEq, ↓reduceIte]
          refine ⟨⟨by omega, by omega⟩, hlt, wps_call rfl hc ⟨rfl, trivial⟩ ?_⟩
          have hs := s4 (midE e.args j) j 0 (.int .i64 (x1 e.args[j].op))
          rw [midE_set hlt] at hs
          simp only [go_sem, n4, hs, hl2, hx2, bit_x1, Int.toNat_natCast, isOwn, List.any_cons, List.any_nil, Nat.reduceAdd, Nat.reduceEqDiff, Nat.reduceBEq, Nat.reduceLeDiff, reduceCtorEq, ↓reduceIte]
          refine ⟨⟨by omega, by omega⟩, ⟨hlt, by decide⟩, ⟨by omega, by omega⟩, hlt, e.args.length - (j + 1), _, by omega, Wk.less ?_, j + 1, by omega, rfl, rfl⟩
          simp only [go_sem, wrap64s j (by omega), Nat.reduceAdd, Nat.reduceEqDiff, Nat.reduceBEq, Nat.reduceLeDiff, reduceCtorEq, ↓reduceIte]
        · have hd : decide ((j : Int) < (e.args.length : Int)) = false := by simp; omega
          obtain rfl : j = e.args.length := by omega
          have hl : ((e.args.map pkOE).map owE).length = e.args.length := by simp
          simp only [go_sem, n4, hl, hd, mix_all, Nat.reduceAdd, Nat.reduceEqDiff, Nat.reduceBEq, Nat.reduceLeDiff, reduceCtorEq, ↓reduceIte]

theorem putc_top {A : List Dat} {q : List (Nat × Nat)} (hq : q = []) (j c s : Nat) (V : List Dat) : putc 5 A q j c s V = A.set j (setEl (A.getD j .opq) c (.own s V)) := by subst hq; rfl
/-- poke, handed the trees of a whole expression -/
theorem step25b (P : Program) (e : Exp) (hv : e.value.length ≤ 68719476736) (ha : e.args.length ≤ 68719476736) (hr : ∀ x ∈ e.args, PK P 25 x 1001) (v1 v2 : Nat) :
    wpc P D0 ir25 (Av.Ends [] [(1000, .tre v1 0 6 (e.value.map owV)), (1001, .tre v2 0 5 (e.args.map owE))] (.tup []) [(1000, .tre v1 0 6 ((e.value.map pkV).map owV)), (1001, .tre v2 0 5 ((e.args.map pkOE).map owE))])
      ⟨enum 0 [.agg [.d (.int .i64 e.op), .d (.int .i64 e.int), .d (.str e.text), .tr 1000 ⟨v1, 0, [], none⟩, .tr 1001 ⟨v2, 0, [], none⟩]], [(1000, .tre v1 0 6 (e.value.map owV)), (1001, .tre v2 0 5 (e.args.map owE))]⟩ := by
  obtain ⟨q, hq⟩ : ∃ q : List (Nat × Nat), q = [] := ⟨_, rfl⟩
  have n3 : ∀ s V, nodeAt (.own s V) q = some (.own s V) := fun s V => by subst hq; rfl
  have s3 : ∀ s V i off y, setAt (.own s V) q i off y = .own s (V.set i (setEl (V.getD i .opq) off y)) := fun s V i off y => by subst hq; rfl
  have q4 := fun A j c s V => putc_top (A := A) hq j c s V
  rw [← hq]
  simp only [go_sem, ir25, Nat.reduceAdd, Nat.reduceEqDiff, Nat.reduceBEq, Nat.reduceLeDiff, reduceCtorEq, ↓reduceIte]
  refine wpc_loop (fun n s => ∃ j : Nat, j ≤ e.value.length ∧ n = e.value.length - j ∧
    s = ⟨[(1, .ref 1 0), (2, .d (.int .i64 j))],
      [(1000, .tre v1 0 6 ((mix pkV e.value j).map owV)), (1001, .tre v2 0 5 (e.args.map owE)), (1, .box [.d (.int .i64 e.op), .d (.int .i64 e.int), .d (.str e.text), .tr 1000 ⟨v1, 0, q, none⟩, .tr 1001 ⟨v2, 0, q, none⟩])]⟩) ?_ ?_
  · refine ⟨_, _, Wk.refl _, 0, Nat.zero_le _, rfl, ?_⟩
    rw [mix_zero]
    rfl
  · rintro n s ⟨j, hj, rfl, rfl⟩
    by_cases hlt : j < e.value.length
    · have hx := nth_mixV hlt
      have hd : decide ((j : Int) < (e.value.length : Int)) = true := by simp; omega
      have hl : ((mix pkV e.value j).map owV).length = e.value.length := by rw [List.length_map, mix_len]
      have hs := s3 6 ((mix pkV e.value j).map owV) j 0 (.int .i64 (x1 e.value[j].kind))
      rw [mixV_set hlt] at hs
      simp only [go_sem, n3, hs, hl, hx, hd, bit_x1, Int.toNat_natCast, isOwn, List.any_cons, List.any_nil, Nat.reduceAdd, Nat.reduceEqDiff, Nat.reduceBEq, Nat.reduceLeDiff, reduceCtorEq, ↓reduceIte]
      refine ⟨⟨by omega, by omega⟩, ⟨hlt, by decide⟩, ⟨by omega, by omega⟩, hlt, e.value.length - (j + 1), _, by omega, Wk.less ?_, j + 1, by omega, rfl, rfl⟩
      simp only [go_sem, wrap64s j (by omega), Nat.reduceAdd, Nat.reduceEqDiff, Nat.reduceBEq, Nat.reduceLeDiff, reduceCtorEq, ↓reduceIte]
    · have hd : decide ((j : Int) < (e.value.length : Int)) = false := by simp; omega
      obtain rfl : j = e.value.length := by omega
      have hl : ((mix pkV e.value e.value.length).map owV).length = e.value.length := by rw [List.length_map, mix_len]
      simp only [go_sem, n3, hl, hd, Nat.reduceAdd, Nat.reduceEqDiff, Nat.reduceBEq, Nat.reduceLeDiff, reduceCtorEq, ↓reduceIte]
      rw [mix_all]
      refine wpc_loop (fun n s => ∃ j : Nat, j ≤ e.args.length ∧ n = e.args.length - j ∧
        s = ⟨[(1, .ref 1 0), (3, .d (.int .i64 j))],
          [(1000, .tre v1 0 6 ((e.value.map pkV).map owV)), (1001, .tre v2 0 5 ((mix pkOE e.args j).map owE)), (1, .box [.d (.int .i64 e.op), .d (.int .i64 e.int), .d (.str e.text), .tr 1000 ⟨v1, 0, q, none⟩, .tr 1001 ⟨v2, 0, q, none⟩])]⟩) ?_ ?_
      · refine ⟨_, _, Wk.refl _, 0, Nat.zero_le _, rfl, ?_⟩
        rw [mix_zero]
        rfl
      · rintro n s ⟨j, hj, rfl, rfl⟩
        by_cases hlt : j < e.args.length
        · have hx := nth_mixE hlt
          have hd : decide ((j : Int) < (e.args.length : Int)) = true := by simp; omega
          have hl : ((mix pkOE e.args j).map owE).length = e.args.length := by rw [List.length_map, mix_len]
          have hg : ((mix pkOE e.args j).map owE)[j]? = some (owE e.args[j]) := by rw [List.getElem?_map, mix_get pkOE e.args j hlt]; rfl
          have hc := hr e.args[j] (List.getElem_mem hlt) 5 v2 0 _ _ q j (n3 5 ((mix pkOE e.args j).map owE)) hg
          rw [q4, q4, mixE_two hlt] at hc
          have hx2 := nth_midE hlt
          have hl2 : (midE e.args j).length = e.args.length := by rw [midE, List.length_set, hl]
          have hs := s3 5 (midE e.args j) j 0 (.int .i64 (x1 e.args[j].op))
          rw [midE_set hlt] at hs
          simp only [go_sem, n3, hl, hx, hd, Int.toNat_natCast, Nat.reduceAdd, Nat.reduceEqDiff, Nat.reduceBEq, Nat.reduceLeDiff, reduceCtorEq, ↓reduceIte]
          refine ⟨⟨by omega, by omega⟩, hlt, wps_call rfl hc ⟨rfl, trivial⟩ ?_⟩
          simp only [go_sem, n3, hs, hl2, hx2, bit_x1, Int.toNat_natCast, isOwn, List.any_cons, List.any_nil, Nat.reduceAdd, Nat.reduceEqDiff, Nat.reduceBEq, Nat.reduceLeDiff, reduceCtorEq, ↓reduceIte]
          refine ⟨⟨by omega, by omega⟩, ⟨hlt, by decide⟩, ⟨by omega, by omega⟩, hlt, e.args.length - (j + 1), _, by omega, Wk.less ?_, j + 1, by omega, rfl, rfl⟩
          simp only [go_sem, wrap64s j (by omega), Nat.reduceAdd, Nat.reduceEqDiff, Nat.reduceBEq, Nat.reduceLeDiff, reduceCtorEq, ↓reduceIte]
        · have hd : decide ((j : Int) < (e.args.length : Int)) = false := by simp; omega
          obtain rfl : j = e.args.length := by omega
          have hl : ((e.args.map pkOE).map owE).length = e.args.length := by simp
          simp only [go_sem, n3, hl, hd, mix_all, Nat.reduceAdd, Nat.reduceEqDiff, Nat.reduceBEq, Nat.reduceLeDiff, reduceCtorEq, ↓reduceIte]

theorem con25 (e : Exp) (hv : e.value.length ≤ 68719476736) (ha : e.args.length ≤ 68719476736) (hr : ∀ x ∈ e.args, PK Tryz.prog 25 x 1000) (i : Nat) : PK Tryz.prog 25 e i := by
  intro z ver sv xs ys p k hp hk
  have h : Con Tryz.prog 25 _ _ _ _ := ok25.con (k := false) (Nat.le_of_ble_eq_true rfl) (closed_puts (by simp [puts, put, closedH, objIn])) (by trivial) (step25 Tryz.prog e hv ha hr z ver sv xs ys p k hp hk)
  have := Con.one h (by intro c hc; rw [List.mem_singleton] at hc; subst hc; simp [inT, idsIn, idsInL, Av.get]) (by trivial) i
  simp only [List.map_cons, List.map_nil, Av.ren, renL] at this
  exact this
mutual
theorem pk25 : ∀ (e : Exp), okE e → ∀ i, PK Tryz.prog 25 e i
  | .mk o i t v l, ha => fun j => by
    simp only [okE] at ha
    obtain ⟨a1, a2, a3, a4⟩ := ha
    exact con25 (.mk o i t v l) a1 a2 (fun x hx => pk25s l a4 x hx 1000) j
theorem pk25s : ∀ (l : List Exp), okEs l → ∀ x ∈ l, ∀ i, PK Tryz.prog 25 x i
  | [], _, x, h => by cases h
  | v :: r, ho, x, h => by
    simp only [okEs] at ho
    by_cases e : x = v
    · rw [e]; exact pk25 v ho.1
    · exact pk25s r ho.2 x ((List.mem_cons.1 h).resolve_left e)
end
theorem okE_parts {e : Exp} (h : okE e) : e.value.length ≤ 68719476736 ∧ e.args.length ≤ 68719476736 ∧ okVs e.value ∧ okEs e.args := by
  cases e
  simp only [okE] at h
  exact h
/-- poke at a whole expression -/
theorem call25 (e : Exp) (he : okE e) (v1 v2 i j : Nat) (hij : i ≠ j) :
    CallOK Tryz.prog 25 [.agg [.d (.int .i64 e.op), .d (.int .i64 e.int), .d (.str e.text), .tr i ⟨v1, 0, [], none⟩, .tr j ⟨v2, 0, [], none⟩]] [(i, some (.tre v1 0 6 (e.value.map owV))), (j, some (.tre v2 0 5 (e.args.map owE)))] (.tup [])
      [(i, .tre v1 0 6 ((e.value.map pkV).map owV)), (j, .tre v2 0 5 ((e.args.map pkOE).map owE))] := by
  obtain ⟨h1, h2, h3, h4⟩ := okE_parts he
  have h : Con Tryz.prog 25 _ _ _ _ := ok25.con (k := false) (Nat.le_of_ble_eq_true rfl) (closed_puts (by simp [puts, put, closedH, objIn])) (by trivial) (step25b Tryz.prog e h1 h2 (fun x hx => pk25s e.args h4 x hx 1001) v1 v2)
  have := Con.pair h (by intro c hc; rw [List.mem_singleton] at hc; subst hc; simp [inT, idsIn, idsInL, Av.get]) (by trivial) i j hij
  simp only [List.map_cons, List.map_nil, Av.ren, renL, if_true, show (1001 : Nat) ≠ 1000 from by decide, if_false] at this
  exact this
end Go.Proofs

namespace Go.Proofs
open Go Av

def zA {α : Type} (f : α → α → Bool) (xs ys : List α) (k : Nat) : Bool := ((xs.drop k).zip (ys.drop k)).all fun p => f p.1 p.2
theorem zA_step {α : Type} (f : α → α → Bool) {xs ys : List α} {k : Nat} (h : k < xs.length) (h' : k < ys.length) : zA f xs ys k = (f xs[k] ys[k] && zA f xs ys (k + 1)) := by
  rw [zA, List.drop_eq_getElem_cons h, List.drop_eq_getElem_cons h', List.zip_cons_cons, List.all_cons]; rfl
theorem zA_end {α : Type} (f : α → α → Bool) {xs ys : List α} {k : Nat} (h : xs.length ≤ k) : zA f xs ys k = true := by
  rw [zA, List.drop_eq_nil_of_le h, List.zip_nil_left]; rfl
theorem eqF_zA {α : Type} (f : α → α → Bool) {xs ys : List α} (h : xs.length = ys.length) : eqF f xs ys = zA f xs ys 0 := by simp [eqF, zA, h]
theorem eqE_eq (a b : Exp) : eqE a b = (a.op == b.op && a.int == b.int && a.text == b.text && eqF (fun x y => cmpV x y == 0) a.value b.value && eqF eqE a.args b.args) := by
  cases a; simp only [eqE, eqEs_eq, Exp.op, Exp.int, Exp.text, Exp.value, Exp.args]

theorem step22 (a b : Exp) (ha : a.value.length ≤ 68719476736) (ha2 : a.args.length ≤ 68719476736)
    (h1 : ∀ x ∈ a.value, ∀ y ∈ b.value, CallOK Tryz.prog 17 [.d (encV x), .d (encV y)] [] (.d (.bool (cmpV x y == 0))) [])
    (h2 : ∀ x ∈ a.args, ∀ y ∈ b.args, CallOK Tryz.prog 22 [.d (encE x), .d (encE y)] [] (.d (.bool (eqE x y))) []) :
    PCon Tryz.prog 22 [encE a, encE b] (.d (.bool (eqE a b))) := by
  refine ok22.pcon (Nat.le_of_ble_eq_true rfl) trivial ?_
  generalize hR : eqE a b = R
  rw [eqE_eq] at hR
  rw [encE_eq, encE_eq]
  simp only [go_sem, ir22, Nat.reduceAdd, Nat.reduceEqDiff, Nat.reduceBEq, Nat.reduceLeDiff, reduceCtorEq, ↓reduceIte]
  refine scQ_pure (a.int != b.int) (fun _ => ?_) ?_
  all_goals simp only [go_sem, Nat.reduceAdd, Nat.reduceEqDiff, Nat.reduceBEq, Nat.reduceLeDiff, reduceCtorEq, ↓reduceIte]
  refine scQ_pure (!(a.text == b.text)) (fun _ => ?_) ?_
  all_goals simp only [go_sem, Nat.reduceAdd, Nat.reduceEqDiff, Nat.reduceBEq, Nat.reduceLeDiff, reduceCtorEq, ↓reduceIte]
  refine scQ_pure ((a.value.length : Int) != (b.value.length : Int)) (fun _ => ?_) ?_
  all_goals simp only [go_sem, List.length_map, Nat.reduceAdd, Nat.reduceEqDiff, Nat.reduceBEq, Nat.reduceLeDiff, reduceCtorEq, ↓reduceIte]
  refine scQ_pure ((a.args.length : Int) != (b.args.length : Int)) (fun _ => ?_) ?_
  all_goals simp only [go_sem, List.length_map, Nat.reduceAdd, Nat.reduceEqDiff, Nat.reduceBEq, Nat.reduceLeDiff, reduceCtorEq, ↓reduceIte]
  refine ⟨fun hc => ?_, fun hc => ?_⟩
  · have hf : R = false := by
      rw [← hR]
      simp only [Bool.or_eq_true, bne_iff_ne, ne_eq, Bool.not_eq_true', beq_eq_false_iff_ne] at hc
      simp only [Bool.and_eq_false_iff, beq_eq_false_iff_ne, ne_eq, eqF]
      rcases hc with (((hc | hc) | hc) | hc) | hc
      · exact .inl (.inl (.inl (.inl hc)))
      · exact .inl (.inl (.inl (.inr hc)))
      · exact .inl (.inl (.inr hc))
      · exact .inl (.inr (.inl (by omega)))
      · exact .inr (.inl (by omega))
    subst hf
    simp only [go_sem, Nat.reduceAdd, Nat.reduceEqDiff, Nat.reduceBEq, Nat.reduceLeDiff, reduceCtorEq, ↓reduceIte]
  · simp only [Bool.or_eq_false_iff, bne_eq_false_iff_eq, Bool.not_eq_false'] at hc
    obtain ⟨⟨⟨⟨c1, c2⟩, c3⟩, c4⟩, c5⟩ := hc
    have l4 : a.value.length = b.value.length := by omega
    have l5 : a.args.length = b.args.length := by omega
    rw [eqF_zA _ l4, eqF_zA _ l5, show (a.op == b.op) = true by simpa using c1, show (a.int == b.int) = true by simpa using c2, c3, Bool.true_and, Bool.true_and, Bool.true_and] at hR
    try simp only [go_sem, Nat.reduceAdd, Nat.reduceEqDiff, Nat.reduceBEq, Nat.reduceLeDiff, reduceCtorEq, ↓reduceIte]
    refine wpc_loop (fun n s => ∃ k : Nat, k ≤ a.value.length ∧ n = a.value.length - k ∧ (zA (fun x y => cmpV x y == 0) a.value b.value k && zA eqE a.args b.args 0) = R ∧
      s = ⟨[(2, .ref 2 0), (3, .ref 3 0), (5, .d (.int .i64 k))],
        [(2, .box [.d (.int .i64 a.op), .d (.int .i64 a.int), .d (.str a.text), .d (.list 6 (a.value.map encV)), .d (.list 5 (a.args.map encE))]),
         (3, .box [.d (.int .i64 b.op), .d (.int .i64 b.int), .d (.str b.text), .d (.list 6 (b.value.map encV)), .d (.list 5 (b.args.map encE))])]⟩) ?_ ?_
    · exact ⟨_, _, Wk.refl _, 0, Nat.zero_le _, rfl, hR, rfl⟩
    · clear hR
      rintro n s ⟨k, hk, rfl, hinv, rfl⟩
      by_cases hlt : k < a.value.length
      · have hlt' : k < b.value.length := by omega
        have hx := nth_encV hlt
        have hy := nth_encV hlt'
        have hd : decide ((k : Int) < (a.value.length : Int)) = true := by simp; omega
        have c := h1 a.value[k] (List.getElem_mem _) b.value[k] (List.getElem_mem _)
        rw [encV_eq, encV_eq] at c
        rw [zA_step _ hlt hlt', Bool.and_assoc] at hinv
        simp only [go_sem, hx, hy, hd, List.length_map, Int.toNat_natCast, Nat.reduceAdd, Nat.reduceEqDiff, Nat.reduceBEq, Nat.reduceLeDiff, reduceCtorEq, ↓reduceIte]
        refine ⟨by omega, by omega, wps_call rfl c trivial ?_⟩
        simp only [go_sem, Nat.reduceAdd, Nat.reduceEqDiff, Nat.reduceBEq, Nat.reduceLeDiff, reduceCtorEq, ↓reduceIte]
        generalize (cmpV a.value[k] b.value[k] == 0) = g at *
        cases g with
        | false =>
          rw [Bool.false_and] at hinv
          subst hinv
          simp only [go_sem, Bool.not_false, Nat.reduceAdd, Nat.reduceEqDiff, Nat.reduceBEq, Nat.reduceLeDiff, reduceCtorEq, ↓reduceIte]
        | true =>
          rw [Bool.true_and] at hinv
          simp only [go_sem, Bool.not_true, Nat.reduceAdd, Nat.reduceEqDiff, Nat.reduceBEq, Nat.reduceLeDiff, reduceCtorEq, ↓reduceIte]
          refine ⟨a.value.length - (k + 1), _, by omega, Wk.less ?_, k + 1, by omega, rfl, hinv, rfl⟩
          simp only [go_sem, wrap64s k (by omega), Nat.reduceAdd, Nat.reduceEqDiff, Nat.reduceBEq, Nat.reduceLeDiff, reduceCtorEq, ↓reduceIte]
      · have hd : decide ((k : Int) < (a.value.length : Int)) = false := by simp; omega
        rw [zA_end _ (by omega), Bool.true_and] at hinv
        simp only [go_sem, hd, List.length_map, Nat.reduceAdd, Nat.reduceEqDiff, Nat.reduceBEq, Nat.reduceLeDiff, reduceCtorEq, ↓reduceIte]
        refine wpc_loop (fun n s => ∃ k : Nat, k ≤ a.args.length ∧ n = a.args.length - k ∧ zA eqE a.args b.args k = R ∧
          s = ⟨[(2, .ref 2 0), (3, .ref 3 0), (6, .d (.int .i64 k))],
            [(2, .box [.d (.int .i64 a.op), .d (.int .i64 a.int), .d (.str a.text), .d (.list 6 (a.value.map encV)), .d (.list 5 (a.args.map encE))]),
             (3, .box [.d (.int .i64 b.op), .d (.int .i64 b.int), .d (.str b.text), .d (.list 6 (b.value.map encV)), .d (.list 5 (b.args.map encE))])]⟩) ?_ ?_
        · exact ⟨_, _, Wk.refl _, 0, Nat.zero_le _, rfl, hinv, rfl⟩
        · clear hinv
          rintro n s ⟨k, hk, rfl, hinv, rfl⟩
          by_cases hlt : k < a.args.length
          · have hlt' : k < b.args.length := by omega
            have hx := nth_encE hlt
            have hy := nth_encE hlt'
            have hd : decide ((k : Int) < (a.args.length : Int)) = true := by simp; omega
            have c := h2 a.args[k] (List.getElem_mem _) b.args[k] (List.getElem_mem _)
            rw [encE_eq, encE_eq] at c
            rw [zA_step _ hlt hlt'] at hinv
            simp only [go_sem, hx, hy, hd, List.length_map, Int.toNat_natCast, Nat.reduceAdd, Nat.reduceEqDiff, Nat.reduceBEq, Nat.reduceLeDiff, reduceCtorEq, ↓reduceIte]
            refine ⟨by omega, by omega, wps_call rfl c trivial ?_⟩
            simp only [go_sem, Nat.reduceAdd, Nat.reduceEqDiff, Nat.reduceBEq, Nat.reduceLeDiff, reduceCtorEq, ↓reduceIte]
            generalize eqE a.args[k] b.args[k] = g at *
            cases g with
            | false =>
              rw [Bool.false_and] at hinv
              subst hinv
              simp only [go_sem, Bool.not_false, Nat.reduceAdd, Nat.reduceEqDiff, Nat.reduceBEq, Nat.reduceLeDiff, reduceCtorEq, ↓reduceIte]
            | true =>
              rw [Bool.true_and] at hinv
              simp only [go_sem, Bool.not_true, Nat.reduceAdd, Nat.reduceEqDiff, Nat.reduceBEq, Nat.reduceLeDiff, reduceCtorEq, ↓reduceIte]
              refine ⟨a.args.length - (k + 1), _, by omega, Wk.less ?_, k + 1, by omega, rfl, hinv, rfl⟩
              simp only [go_sem, wrap64s k (by omega), Nat.reduceAdd, Nat.reduceEqDiff, Nat.reduceBEq, Nat.reduceLeDiff, reduceCtorEq, ↓reduceIte]
          · have hd : decide ((k : Int) < (a.args.length : Int)) = false := by simp; omega
            rw [zA_end _ (by omega)] at hinv
            subst hinv
            simp only [go_sem, hd, List.length_map, Nat.reduceAdd, Nat.reduceEqDiff, Nat.reduceBEq, Nat.reduceLeDiff, reduceCtorEq, ↓reduceIte]

mutual
theorem walk22 : ∀ (a : Exp), okE a → ∀ b, okE b → PCon Tryz.prog 22 [encE a, encE b] (.d (.bool (eqE a b)))
  | .mk o i t v l, ha, b, hb => by
    simp only [okE] at ha
    obtain ⟨a1, a2, a3, a4⟩ := ha
    have hb' : okVs b.value ∧ okEs b.args := by cases b; simp only [okE] at hb; exact ⟨hb.2.2.1, hb.2.2.2⟩
    exact step22 _ b a1 a2 (fun x hx y hy => (walk17 x y (okVs_mem a3 x hx) (okVs_mem hb'.1 y hy)).call trivial) (fun x hx y hy => (walk22s l a4 x hx y (okEs_mem hb'.2 y hy)).call trivial)
theorem walk22s : ∀ (l : List Exp), okEs l → ∀ x ∈ l, ∀ b, okE b → PCon Tryz.prog 22 [encE x, encE b] (.d (.bool (eqE x b)))
  | [], _, x, h, _, _ => by cases h
  | v :: r, ho, x, h, b, hb => by
    simp only [okEs] at ho
    by_cases e : x = v
    · rw [e]; exact walk22 v ho.1 b hb
    · exact walk22s r ho.2 x ((List.mem_cons.1 h).resolve_left e) b hb
end

mutual
/-- the number of expressions (of 64 bits) -/
def sizW : Exp → Int
  | .mk _ _ _ _ a => sizWs 1 a
def sizWs : Int → List Exp → Int
  | n, [] => n
  | n, e :: r => sizWs (IntKind.i64.wrap (n + sizW e)) r
end
theorem sizW_eq (a : Exp) : sizW a = sizWs 1 a.args := by cases a; rfl
theorem step23 (a : Exp) (ha2 : a.args.length ≤ 68719476736) (h2 : ∀ x ∈ a.args, CallOK Tryz.prog 23 [.d (encE x)] [] (.d (.int .i64 (sizW x))) []) : PCon Tryz.prog 23 [encE a] (.d (.int .i64 (sizW a))) := by
  refine ok23.pcon (Nat.le_of_ble_eq_true rfl) trivial ?_
  generalize hR : sizW a = R
  rw [sizW_eq] at hR
  rw [encE_eq]
  simp only [go_sem, ir23, List.length_map, Nat.reduceAdd, Nat.reduceEqDiff, Nat.reduceBEq, Nat.reduceLeDiff, reduceCtorEq, ↓reduceIte]
  refine wpc_loop (fun n s => ∃ (k : Nat) (m : Int), k ≤ a.args.length ∧ n = a.args.length - k ∧ sizWs m (a.args.drop k) = R ∧
    s = ⟨[(3, .d (.int .i64 m)), (7, .d (.list 5 (a.args.map encE))), (8, .d (.int .i64 a.args.length)), (9, .d (.int .i64 k))], []⟩) ?_ ?_
  · refine ⟨_, _, Wk.less ?_, 0, 1, Nat.zero_le _, rfl, hR, rfl⟩
    simp [put, go_sem]
  · clear hR
    rintro n s ⟨k, m, hk, rfl, hinv, rfl⟩
    by_cases hlt : k < a.args.length
    · have hx := nth_encE hlt
      have hd : decide ((k : Int) < (a.args.length : Int)) = true := by simp; omega
      have c := h2 a.args[k] (List.getElem_mem _)
      rw [encE_eq] at c
      rw [List.drop_eq_getElem_cons hlt, sizWs] at hinv
      simp only [go_sem, hx, hd, List.length_map, Int.toNat_natCast, Nat.reduceAdd, Nat.reduceEqDiff, Nat.reduceBEq, Nat.reduceLeDiff, reduceCtorEq, ↓reduceIte]
      refine ⟨by omega, wps_call rfl c trivial ?_⟩
      simp only [go_sem, Nat.reduceAdd, Nat.reduceEqDiff, Nat.reduceBEq, Nat.reduceLeDiff, reduceCtorEq, ↓reduceIte]
      refine ⟨a.args.length - (k + 1), _, by omega, Wk.less ?_, k + 1, _, by omega, rfl, hinv, rfl⟩
      simp only [go_sem, wrap64s k (by omega), Nat.reduceAdd, Nat.reduceEqDiff, Nat.reduceBEq, Nat.reduceLeDiff, reduceCtorEq, ↓reduceIte]
    · have hd : decide ((k : Int) < (a.args.length : Int)) = false := by simp; omega
      rw [List.drop_eq_nil_of_le (by omega), sizWs] at hinv
      subst hinv
      simp only [go_sem, hd, List.length_map, Nat.reduceAdd, Nat.reduceEqDiff, Nat.reduceBEq, Nat.reduceLeDiff, reduceCtorEq, ↓reduceIte]
theorem step24 (a : Exp) (ha2 : a.args.length ≤ 68719476736) (h2 : ∀ x ∈ a.args, CallOK Tryz.prog 24 [.d (encE x)] [] (.d (.int .i64 (sizW x))) []) : PCon Tryz.prog 24 [encE a] (.d (.int .i64 (sizW a))) := by
  refine ok24.pcon (Nat.le_of_ble_eq_true rfl) trivial ?_
  generalize hR : sizW a = R
  rw [sizW_eq] at hR
  rw [encE_eq]
  simp only [go_sem, ir24, List.length_map, Nat.reduceAdd, Nat.reduceEqDiff, Nat.reduceBEq, Nat.reduceLeDiff, reduceCtorEq, ↓reduceIte]
  refine wpc_loop (fun n s => ∃ (k : Nat) (m : Int), k ≤ a.args.length ∧ n = a.args.length - k ∧ sizWs m (a.args.drop k) = R ∧
    s = ⟨[(1, .ref 1 0), (3, .d (.int .i64 m)), (4, .d (.int .i64 k))], [(1, .box [.d (.int .i64 a.op), .d (.int .i64 a.int), .d (.str a.text), .d (.list 6 (a.value.map encV)), .d (.list 5 (a.args.map encE))])]⟩) ?_ ?_
  · refine ⟨_, _, Wk.less ?_, 0, 1, Nat.zero_le _, rfl, hR, rfl⟩
    simp [put, go_sem]
  · clear hR
    rintro n s ⟨k, m, hk, rfl, hinv, rfl⟩
    by_cases hlt : k < a.args.length
    · have hx := nth_encE hlt
      have hd : decide ((k : Int) < (a.args.length : Int)) = true := by simp; omega
      have c := h2 a.args[k] (List.getElem_mem _)
      rw [encE_eq] at c
      rw [List.drop_eq_getElem_cons hlt, sizWs] at hinv
      simp only [go_sem, hx, hd, List.length_map, Int.toNat_natCast, Nat.reduceAdd, Nat.reduceEqDiff, Nat.reduceBEq, Nat.reduceLeDiff, reduceCtorEq, ↓reduceIte]
      refine ⟨by omega, wps_call rfl c trivial ?_⟩
      simp only [go_sem, Nat.reduceAdd, Nat.reduceEqDiff, Nat.reduceBEq, Nat.reduceLeDiff, reduceCtorEq, ↓reduceIte]
      refine ⟨a.args.length - (k + 1), _, by omega, Wk.less ?_, k + 1, _, by omega, rfl, hinv, rfl⟩
      simp only [go_sem, wrap64s k (by omega), Nat.reduceAdd, Nat.reduceEqDiff, Nat.reduceBEq, Nat.reduceLeDiff, reduceCtorEq, ↓reduceIte]
    · have hd : decide ((k : Int) < (a.args.length : Int)) = false := by simp; omega
      rw [List.drop_eq_nil_of_le (by omega), sizWs] at hinv
      subst hinv
      simp only [go_sem, hd, List.length_map, Nat.reduceAdd, Nat.reduceEqDiff, Nat.reduceBEq, Nat.reduceLeDiff, reduceCtorEq, ↓reduceIte]
mutual
theorem walk23 : ∀ (a : Exp), okE a → PCon Tryz.prog 23 [encE a] (.d (.int .i64 (sizW a)))
  | .mk o i t v l, ha => by
    simp only [okE] at ha
    exact step23 _ ha.2.1 (fun x hx => (walk23s l ha.2.2.2 x hx).call trivial)
theorem walk23s : ∀ (l : List Exp), okEs l → ∀ x ∈ l, PCon Tryz.prog 23 [encE x] (.d (.int .i64 (sizW x)))
  | [], _, x, h => by cases h
  | v :: r, ho, x, h => by
    simp only [okEs] at ho
    by_cases e : x = v
    · rw [e]; exact walk23 v ho.1
    · exact walk23s r ho.2 x ((List.mem_cons.1 h).resolve_left e)
end
mutual
theorem walk24 : ∀ (a : Exp), okE a → PCon Tryz.prog 24 [encE a] (.d (.int .i64 (sizW a)))
  | .mk o i t v l, ha => by
    simp only [okE] at ha
    exact step24 _ ha.2.1 (fun x hx => (walk24s l ha.2.2.2 x hx).call trivial)
theorem walk24s : ∀ (l : List Exp), okEs l → ∀ x ∈ l, PCon Tryz.prog 24 [encE x] (.d (.int .i64 (sizW x)))
  | [], _, x, h => by cases h
  | v :: r, ho, x, h => by
    simp only [okEs] at ho
    by_cases e : x = v
    · rw [e]; exact walk24 v ho.1
    · exact walk24s r ho.2 x ((List.mem_cons.1 h).resolve_left e)
end
end Go.Proofs

namespace Go.Proofs
open Go Av

theorem cmpBytes_iff : ∀ (a b : Str), Lib.compareBytes a b = 0 ↔ a = b
  | [], [] => by simp [Lib.compareBytes]
  | [], _ :: _ => by simp [Lib.compareBytes]
  | _ :: _, [] => by simp [Lib.compareBytes]
  | a :: r, b :: s => by
    rw [Lib.compareBytes]
    by_cases h : a < b
    · simp only [h, ↓reduceIte, List.cons.injEq]
      refine ⟨fun h => by omega, fun e => absurd h ?_⟩
      rw [e.1]; exact UInt8.lt_irrefl _
    · by_cases h' : b < a
      · simp only [h, h', ↓reduceIte, List.cons.injEq]
        refine ⟨fun h => by omega, fun e => absurd h' ?_⟩
        rw [e.1]; exact UInt8.lt_irrefl _
      · simp only [h, h', ↓reduceIte, List.cons.injEq, cmpBytes_iff r s]
        have : a = b := UInt8.le_antisymm (UInt8.not_lt.1 h') (UInt8.not_lt.1 h)
        simp [this]

theorem cmpS_iff (a b : Str) : cmpS a b = 0 ↔ a = b := by
  rw [cmpS, Lib.cmp_eq]
  exact cmpBytes_iff a b
theorem cmpI_iff (a b : Int) : cmpI a b = 0 ↔ a = b := by
  unfold cmpI
  split
  · omega
  · split <;> omega
theorem orI_iff : ∀ (l : List Int), orI l = 0 ↔ ∀ x ∈ l, x = 0
  | [] => by simp [orI]
  | x :: r => by
    rw [orI]
    by_cases h : x = 0
    · simp [h, orI_iff r]
    · simp [h]

mutual
theorem cmpV_iff : ∀ (a b : Val), cmpV a b = 0 ↔ a = b
  | .mk k i s t l f, .mk k' i' s' t' l' f' => by
    rw [cmpV, orI_iff]
    simp only [List.mem_cons, List.not_mem_nil, or_false, forall_eq_or_imp, forall_eq, cmpI_iff, cmpS_iff, Val.kind, Val.int, Val.scale, Val.text, Val.list, Val.fields, cmpVs_iff l, cmpFs_iff f, Val.mk.injEq]
theorem cmpVs_iff : ∀ (a b : List Val), cmpVs a b = 0 ↔ a = b
  | [], [] => by simp [cmpVs]
  | [], _ :: _ => by simp [cmpVs]
  | _ :: _, [] => by simp [cmpVs]
  | x :: xs, y :: ys => by
    rw [cmpVs, List.cons.injEq, ← cmpV_iff x y, ← cmpVs_iff xs ys]
    by_cases h : cmpV x y = 0
    · simp [h]
    · simp [h]
theorem cmpF_iff : ∀ (a b : Fld), cmpF a b = 0 ↔ a = b
  | .mk n v, .mk n' v' => by
    rw [cmpF, orI_iff]
    simp only [List.mem_cons, List.not_mem_nil, or_false, forall_eq_or_imp, forall_eq, cmpS_iff, Fld.name, Fld.value, cmpV_iff v, Fld.mk.injEq]
theorem cmpFs_iff : ∀ (a b : List Fld), cmpFs a b = 0 ↔ a = b
  | [], [] => by simp [cmpFs]
  | [], _ :: _ => by simp [cmpFs]
  | _ :: _, [] => by simp [cmpFs]
  | x :: xs, y :: ys => by
    rw [cmpFs, List.cons.injEq, ← cmpF_iff x y, ← cmpFs_iff xs ys]
    by_cases h : cmpF x y = 0
    · simp [h]
    · simp [h]
end

theorem eqF_true {α : Type} {eq : α → α → Bool} : ∀ (xs ys : List α), (∀ x ∈ xs, ∀ y ∈ ys, (eq x y = true ↔ x = y)) → (eqF eq xs ys = true ↔ xs = ys)
  | [], [], _ => by simp [eqF]
  | [], _ :: _, _ => by simp [eqF]
  | _ :: _, [], _ => by simp [eqF]
  | x :: xs, y :: ys, h => by
    have ih := eqF_true xs ys fun a ha b hb => h a (List.mem_cons_of_mem _ ha) b (List.mem_cons_of_mem _ hb)
    have h0 := h x (List.mem_cons_self ..) y (List.mem_cons_self ..)
    simp only [eqF, List.length_cons, List.zip_cons_cons, List.all_cons, Bool.and_eq_true, beq_iff_eq, Nat.add_right_cancel_iff, h0, List.cons.injEq] at ih ⊢
    rw [← ih]
    exact ⟨fun h => ⟨h.2.1, h.1, h.2.2⟩, fun h => ⟨h.2.1, h.1, h.2.2⟩⟩

mutual
theorem eqE_iff : ∀ (a b : Exp), eqE a b = true ↔ a = b
  | .mk o i t v l, .mk o' i' t' v' l' => by
    have h1 : eqF (fun x y => cmpV x y == 0) v v' = true ↔ v = v' := eqF_true _ _ fun x _ y _ => by simp [cmpV_iff]
    simp only [eqE, Bool.and_eq_true, beq_iff_eq, Exp.op, Exp.int, Exp.text, Exp.value, Exp.args, h1, eqEs_iff l l', Exp.mk.injEq, and_assoc]
theorem eqEs_iff : ∀ (a b : List Exp), eqEs a b = true ↔ a = b
  | [], [] => by simp [eqEs]
  | [], _ :: _ => by simp [eqEs]
  | _ :: _, [] => by simp [eqEs]
  | x :: xs, y :: ys => by simp only [eqEs, Bool.and_eq_true, eqE_iff x y, eqEs_iff xs ys, List.cons.injEq]
end
theorem eqR_iff (a b : Rule) : eqR a b = true ↔ a = b := by
  cases a; cases b
  simp only [eqR, Bool.and_eq_true, beq_iff_eq, eqE_iff, Rule.mk.injEq]
theorem eqM_iff (a b : List Rule) : eqM a b = true ↔ a = b := eqF_true a b fun x _ y _ => eqR_iff x y
theorem eqM_symm (a b : List Rule) : eqM a b = eqM b a := by
  rw [Bool.eq_iff_iff, eqM_iff, eqM_iff]; exact eq_comm
theorem eqM_self (a : List Rule) : eqM a a = true := (eqM_iff a a).2 rfl
end Go.Proofs

namespace Go.Proofs
open Go Av

theorem eqE_self (a : Exp) : eqE a a = true := (eqE_iff a a).2 rfl
attribute [local go_sem] datL_vals datL_exps
theorem walk4 (a b : Exp) (ha : okE a) (hb : okE b) (h20 : PCon Tryz.prog 20 [] (.d (.bool true))) : PCon Tryz.prog 4 [encE a, encE b] (.d (.bool true)) := by
  refine ok4.pcon (Nat.le_of_ble_eq_true rfl) trivial ?_
  have c20 := h20.call trivial
  have c19t : CE a 501 502 := call19t a (walk19t a ha) 501 502 (by decide)
  have c19 := (walk19 a ha).call trivial
  have c21 := (walk21 a ha b hb).call trivial
  have c22 := (walk22 a ha b hb).call trivial
  have p22 := walk22 a ha a ha
  have p21 := walk21 a ha a ha
  have c23 := (walk23 a ha).call trivial
  have c24 := (walk24 a ha).call trivial
  have c25 := call25 a ha a.value.length a.args.length 501 502 (by decide)
  have c22s := p22.call trivial
  rw [eqE_self] at p22 p21 c22s
  have bor : ∀ f, PCon Tryz.prog f [encE a, encE a] (.d (.bool true)) → CallOK Tryz.prog (.fn f) [rE a 501 502, .d (encE a)] [(501, some (.tre a.value.length 0 6 (a.value.map owV))), (502, some (.tre a.args.length 0 5 (a.args.map owE)))] (.d (.bool true)) [] := by
    intro f hf
    refine CallOK.borrow hf rfl _ _ fun H hH => ?_
    have h1 : H 501 = some (.tre a.value.length 0 6 (a.value.map owV)) := hH (501, some (.tre a.value.length 0 6 (a.value.map owV))) (by simp)
    have h2 : H 502 = some (.tre a.args.length 0 5 (a.args.map owE)) := hH (502, some (.tre a.args.length 0 5 (a.args.map owE))) (by simp)
    rw [rE, encE_eq]
    simp [datumAll, datum, datums, datum1, h1, h2, hputs, upd, datL_vals, datL_exps]
    exact ⟨True, trivial⟩
  have b22 := bor 22 p22
  have b21 := bor 21 p21
  rw [CE, encE_eq, rE] at c19t
  rw [encE_eq] at c19 c23 c24 c22s
  rw [encE_eq, encE_eq] at c21 c22
  rw [rE, encE_eq] at b21 b22
  rw [encE_eq a, encE_eq b]
  simp only [go_sem, ir4, Nat.reduceAdd, Nat.reduceEqDiff, Nat.reduceBEq, Nat.reduceLeDiff, reduceCtorEq, ↓reduceIte]
  refine wpsL_call rfl c19t ⟨rfl, rfl, trivial⟩ ?_
  simp only [go_sem, Nat.reduceAdd, Nat.reduceEqDiff, Nat.reduceBEq, Nat.reduceLeDiff, reduceCtorEq, ↓reduceIte]
  refine wpsL_call rfl c19 trivial ?_
  simp only [go_sem, Nat.reduceAdd, Nat.reduceEqDiff, Nat.reduceBEq, Nat.reduceLeDiff, reduceCtorEq, ↓reduceIte]
  refine ⟨by decide, ?_⟩
  refine wpsL_call rfl c20 trivial ?_
  simp only [go_sem, Bool.not_true, Nat.reduceAdd, Nat.reduceEqDiff, Nat.reduceBEq, Nat.reduceLeDiff, reduceCtorEq, ↓reduceIte]
  refine ⟨false, _, [([2], []), ([3], []), ([], []), ([2], []), ([3], []), ([], []), ([], [])], rfl, ?_, fun _ => rfl, ?_⟩
  · refine wpsL_call rfl c21 trivial ?_
    simp only [go_sem, Bool.not_true, Nat.reduceAdd, Nat.reduceEqDiff, Nat.reduceBEq, Nat.reduceLeDiff, reduceCtorEq, ↓reduceIte]
    refine wpsL_call rfl c22 trivial ?_
    simp only [go_sem, Bool.not_true, Nat.reduceAdd, Nat.reduceEqDiff, Nat.reduceBEq, Nat.reduceLeDiff, reduceCtorEq, ↓reduceIte]
  simp only [go_sem, Bool.not_true, Nat.reduceAdd, Nat.reduceEqDiff, Nat.reduceBEq, Nat.reduceLeDiff, reduceCtorEq, ↓reduceIte]
  refine ⟨false, _, [([5], []), ([2], []), ([501, 502], []), ([], [])], rfl, ?_, fun _ => rfl, ?_⟩
  · refine wpsL_call rfl b22 ⟨rfl, rfl, trivial⟩ ?_
    simp only [go_sem, Bool.not_true, Nat.reduceAdd, Nat.reduceEqDiff, Nat.reduceBEq, Nat.reduceLeDiff, reduceCtorEq, ↓reduceIte]
  simp only [go_sem, Bool.not_true, Nat.reduceAdd, Nat.reduceEqDiff, Nat.reduceBEq, Nat.reduceLeDiff, reduceCtorEq, ↓reduceIte]
  refine ⟨false, _, [([5], []), ([6], []), ([501, 502], []), ([], [])], rfl, ?_, fun _ => rfl, ?_⟩
  · refine wpsL_call rfl b21 ⟨rfl, rfl, trivial⟩ ?_
    simp only [go_sem, Bool.not_true, Nat.reduceAdd, Nat.reduceEqDiff, Nat.reduceBEq, Nat.reduceLeDiff, reduceCtorEq, ↓reduceIte]
  simp only [go_sem, Bool.not_true, Nat.reduceAdd, Nat.reduceEqDiff, Nat.reduceBEq, Nat.reduceLeDiff, reduceCtorEq, ↓reduceIte]
  refine ⟨false, _, [([2], []), ([], []), ([2], []), ([], []), ([], [])], rfl, ?_, fun _ => rfl, ?_⟩
  · refine wpsL_call rfl c23 trivial ?_
    simp only [go_sem, Bool.not_true, Nat.reduceAdd, Nat.reduceEqDiff, Nat.reduceBEq, Nat.reduceLeDiff, reduceCtorEq, ↓reduceIte]
    refine wpsL_call rfl c24 trivial ?_
    simp only [go_sem, Bool.not_true, Nat.reduceAdd, Nat.reduceEqDiff, Nat.reduceBEq, Nat.reduceLeDiff, reduceCtorEq, ↓reduceIte]
    simp
  simp only [go_sem, Bool.not_true, Nat.reduceAdd, Nat.reduceEqDiff, Nat.reduceBEq, Nat.reduceLeDiff, reduceCtorEq, ↓reduceIte]
  refine ⟨by decide, ?_⟩
  refine wps_call rfl c25 ⟨rfl, rfl, trivial⟩ ?_
  simp only [go_sem, Bool.not_true, Nat.reduceAdd, Nat.reduceEqDiff, Nat.reduceBEq, Nat.reduceLeDiff, reduceCtorEq, ↓reduceIte]
  refine wps_call rfl c22s trivial ?_
  simp only [go_sem, Bool.not_true, Nat.reduceAdd, Nat.reduceEqDiff, Nat.reduceBEq, Nat.reduceLeDiff, reduceCtorEq, ↓reduceIte]
end Go.Proofs

namespace Go.Proofs.YtiekiedlkehccaaGreatDoor
open Go Go.Proofs Av Go.ChangeShapes Go.WideShapes Go.ChangeAt Go.RowKit

theorem contractX (h20 : PCon Tryz.prog 20 [] (.d (.bool true))) (H : Type) (enc : TypeId × Value → H) (W : World) (base : Nat) (args : Array Value) (ds gs : List (DataW H)) (before : List MemPlace)
    (hval : ∀ (j : Nat) t v, Tryz.f4.params[j]? = some t → args[j]? = some v → Value.okWide Tryz.prog W .any base t v)
    (hW : DataW.Whole enc Tryz.prog Tryz.f4.params.toList Rows.exprEqualsSpec.vars false W args.toList ds gs before) (hk : Rows.uptoSmall H (ds ++ gs) = true) (hL : laidMetH Tryz.prog Rows.exprEqualsUptoRow.laid W) :
    Calls Tryz.prog 4 args W fun e W' => ∃ v, e = .returned v ∧ Rows.exprEqualsSpec.post enc Tryz.prog Tryz.f4 false true false false W args v W' := by
  have hW' := hW
  have hk' : Rows.uptoBulkAll (ds ++ gs) ≤ 1048576 := of_decide_eq_true hk
  rw [bulk_append] at hk'
  obtain ⟨p, q, hA0, hV, rfl, hfz, hnd⟩ := hW
  have hA : DataW.TrodAll enc Tryz.prog W 0 (fun _ => true) true Tryz.f4.params.toList args.toList ds p := hA0
  rw [Tryz.params4] at hA hval
  obtain ⟨v0, vs0, d0, ds0, p0, q0, hargs, rfl, rfl, h0, r0⟩ := trodAll_cons hA
  obtain ⟨v1, vs1, d1, ds1, p1, q1, rfl, rfl, rfl, h1, r1⟩ := trodAll_cons r0
  obtain ⟨rfl, rfl, rfl⟩ := trodAll_nil r1
  obtain rfl : args = #[v0, v1] := by cases args; simp_all
  obtain ⟨rfl, rfl⟩ := trodVars_none hV
  simp only [Rows.uptoBulkAll] at hk'
  obtain ⟨m, hm, rm⟩ := open_exp46 (hval 0 73 v0 rfl rfl) h0 (by omega)
  obtain ⟨m2, hm2, rm2⟩ := open_exp46 (hval 1 73 v1 rfl rfl) h1 (by omega)
  refine (calls_of_pcon (walk4 m m2 hm.1 hm2.1 h20) (vs := #[v0, v1]) (globs hL) rfl ?_).mono ?_
  · intro i d v hd hv
    match i, hd, hv with
    | 0, hd, hv => cases hd; cases hv; exact rm
    | 1, hd, hv => cases hd; cases hv; exact rm2
  · rintro e W' ⟨rfl, hbel⟩
    have hlt : ∀ x ∈ p0 ++ (p1 ++ []), x.block < W.heap.size := fun x hx => by simpa using hW'.lt x (by simpa using hx)
    refine ⟨.bool true, rfl, [d0, d1], [], _, [], p0 ++ (p1 ++ []), [], hW', ?_, ?_, ?_, hbel.frame _, fun h => by cases h⟩
    · exact trodAll_mk1 (shut_bool (by kernel_rfl) _)
    · have a0 := Below.trod laidOut (by kernel_rfl) (of_decide_eq_true (by kernel_rfl)) h0 hbel (fun x hx => hlt x (by simp [hx]))
      have a1 := Below.trod laidOut (by kernel_rfl) (of_decide_eq_true (by kernel_rfl)) h1 hbel (fun x hx => hlt x (by simp [hx]))
      show DataW.TrodAll enc Tryz.prog W' 0 _ true Tryz.f4.params.toList [v0, v1] [d0, d1] _
      rw [Tryz.params4]
      exact trodAll_cons_mk a0 (trodAll_cons_mk a1 trodAll_mk0)
    · rfl
end Go.Proofs.YtiekiedlkehccaaGreatDoor
