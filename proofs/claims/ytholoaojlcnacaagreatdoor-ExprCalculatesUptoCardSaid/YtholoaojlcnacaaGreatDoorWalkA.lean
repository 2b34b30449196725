/- The data of the program's package api as Lean types, and how they lie in memory. -/
import Derived.Test.YtholoaojlcnacaaGreatDoorAvD
import Derived.Test.YtholoaojlcnacaaGreatDoorForms
set_option linter.unusedVariables false
set_option linter.unusedSimpArgs false
set_option linter.unusedSectionVars false
namespace Av
open Go
variable [Glb]

abbrev Str := List UInt8

mutual
inductive Val where
  | mk (kind int scale : Int) (text : Str) (list : List Val) (fields : List Fld)
inductive Fld where
  | mk (name : Str) (value : Val)
end

namespace Val
def kind : Val → Int | .mk k _ _ _ _ _ => k
def int : Val → Int | .mk _ i _ _ _ _ => i
def scale : Val → Int | .mk _ _ s _ _ _ => s
def text : Val → Str | .mk _ _ _ t _ _ => t
def list : Val → List Val | .mk _ _ _ _ l _ => l
def fields : Val → List Fld | .mk _ _ _ _ _ f => f
end Val
namespace Fld
def name : Fld → Str | .mk n _ => n
def value : Fld → Val | .mk _ v => v
end Fld

mutual
def encV : Val → Dat
  | .mk k i s t l f => .agg [.int .i64 k, .int .i64 i, .int .i64 s, .str t, .list 6 (encVs l), .list 7 (encFs f)]
def encVs : List Val → List Dat
  | [] => []
  | v :: r => encV v :: encVs r
def encF : Fld → Dat
  | .mk n v => .agg (.str n :: (encV v).cells)
def encFs : List Fld → List Dat
  | [] => []
  | v :: r => encF v :: encFs r
end
theorem encVs_map : ∀ l : List Val, encVs l = l.map encV
  | [] => by simp [encVs]
  | v :: r => by simp [encVs, encVs_map r]
theorem encFs_map : ∀ l : List Fld, encFs l = l.map encF
  | [] => by simp [encFs]
  | v :: r => by simp [encFs, encFs_map r]
theorem encV_eq (v : Val) : encV v = .agg [.int .i64 v.kind, .int .i64 v.int, .int .i64 v.scale, .str v.text, .list 6 (v.list.map encV), .list 7 (v.fields.map encF)] := by
  cases v; simp [encV, encVs_map, encFs_map, Val.kind, Val.int, Val.scale, Val.text, Val.list, Val.fields]
theorem encF_eq (f : Fld) : encF f = .agg [.str f.name, .int .i64 f.value.kind, .int .i64 f.value.int, .int .i64 f.value.scale, .str f.value.text, .list 6 (f.value.list.map encV), .list 7 (f.value.fields.map encF)] := by
  cases f; simp [encF, encV_eq, Fld.name, Fld.value, Dat.cells]

theorem nth_encV {xs : List Val} {k : Nat} (h : k < xs.length) : nth (xs.map encV) k = .agg [.int .i64 xs[k].kind, .int .i64 xs[k].int, .int .i64 xs[k].scale, .str xs[k].text, .list 6 (xs[k].list.map encV), .list 7 (xs[k].fields.map encF)] := by
  rw [nth_eq (by simpa using h), List.getElem_map, encV_eq]
theorem nth_encF {xs : List Fld} {k : Nat} (h : k < xs.length) : nth (xs.map encF) k = .agg [.str xs[k].name, .int .i64 xs[k].value.kind, .int .i64 xs[k].value.int, .int .i64 xs[k].value.scale, .str xs[k].value.text, .list 6 (xs[k].value.list.map encV), .list 7 (xs[k].value.fields.map encF)] := by
  rw [nth_eq (by simpa using h), List.getElem_map, encF_eq]

inductive Exp where
  | mk (op int : Int) (text : Str) (value : List Val) (args : List Exp)
namespace Exp
def op : Exp → Int | .mk o _ _ _ _ => o
def int : Exp → Int | .mk _ i _ _ _ => i
def text : Exp → Str | .mk _ _ t _ _ => t
def value : Exp → List Val | .mk _ _ _ v _ => v
def args : Exp → List Exp | .mk _ _ _ _ a => a
end Exp
mutual
def encE : Exp → Dat
  | .mk o i t v a => .agg [.int .i64 o, .int .i64 i, .str t, .list 6 (v.map encV), .list 5 (encEs a)]
def encEs : List Exp → List Dat
  | [] => []
  | v :: r => encE v :: encEs r
end
theorem encEs_map : ∀ l : List Exp, encEs l = l.map encE
  | [] => by simp [encEs]
  | v :: r => by simp [encEs, encEs_map r]
theorem encE_eq (e : Exp) : encE e = .agg [.int .i64 e.op, .int .i64 e.int, .str e.text, .list 6 (e.value.map encV), .list 5 (e.args.map encE)] := by
  cases e; simp [encE, encEs_map, Exp.op, Exp.int, Exp.text, Exp.value, Exp.args]

theorem nth_encE {xs : List Exp} {k : Nat} (h : k < xs.length) : nth (xs.map encE) k = .agg [.int .i64 xs[k].op, .int .i64 xs[k].int, .str xs[k].text, .list 6 (xs[k].value.map encV), .list 5 (xs[k].args.map encE)] := by
  rw [nth_eq (by simpa using h), List.getElem_map, encE_eq]

structure Rule where
  target : Str
  expr : Exp
def encR (r : Rule) : Dat := .agg [.str r.target, .int .i64 r.expr.op, .int .i64 r.expr.int, .str r.expr.text, .list 6 (r.expr.value.map encV), .list 5 (r.expr.args.map encE)]
theorem nth_encR {xs : List Rule} {k : Nat} (h : k < xs.length) : nth (xs.map encR) k = .agg [.str xs[k].target, .int .i64 xs[k].expr.op, .int .i64 xs[k].expr.int, .str xs[k].expr.text, .list 6 (xs[k].expr.value.map encV), .list 5 (xs[k].expr.args.map encE)] := by
  rw [nth_eq (by simpa using h), List.getElem_map, encR]
/-- a mapping: its rules -/
def encM (m : List Rule) : Dat := .agg [.list 6 (m.map encR)]

theorem canonL_encV (h : ∀ v : Val, (encV v).canon = encV v) (l : List Val) : canonL (l.map encV) = l.map encV := by
  rw [canonL_map, List.map_map]
  exact List.map_congr_left fun v _ => h v

mutual
theorem canon_encV : ∀ v : Val, (encV v).canon = encV v
  | .mk k i s t l f => by simp only [encV, Dat.canon, canonL, canon_encVs l, canon_encFs f]
theorem canon_encVs : ∀ l : List Val, canonL (encVs l) = encVs l
  | [] => by simp [encVs, canonL]
  | v :: r => by simp only [encVs, canonL, canon_encV v, canon_encVs r]
theorem canon_encF : ∀ f : Fld, (encF f).canon = encF f
  | .mk n v => by
    have := canon_encV v
    cases v with
    | mk k i s t l f =>
      simp only [encV, Dat.canon, canonL, Dat.agg.injEq, List.cons.injEq, true_and, and_true, Dat.list.injEq] at this
      simp only [encF, encV, Dat.cells, Dat.canon, canonL, this]
theorem canon_encFs : ∀ l : List Fld, canonL (encFs l) = encFs l
  | [] => by simp [encFs, canonL]
  | v :: r => by simp only [encFs, canonL, canon_encF v, canon_encFs r]
end
theorem canonL_vals (l : List Val) : canonL (l.map encV) = l.map encV := by rw [← encVs_map, canon_encVs]
theorem canonL_flds (l : List Fld) : canonL (l.map encF) = l.map encF := by rw [← encFs_map, canon_encFs]
mutual
theorem canon_encE : ∀ e : Exp, (encE e).canon = encE e
  | .mk o i t v a => by simp only [encE, Dat.canon, canonL, canonL_vals, canon_encEs a]
theorem canon_encEs : ∀ l : List Exp, canonL (encEs l) = encEs l
  | [] => by simp [encEs, canonL]
  | v :: r => by simp only [encEs, canonL, canon_encE v, canon_encEs r]
end
theorem canonL_exps (l : List Exp) : canonL (l.map encE) = l.map encE := by rw [← encEs_map, canon_encEs]
theorem canon_encR (r : Rule) : (encR r).canon = encR r := by simp only [encR, Dat.canon, canonL, canonL_vals, canonL_exps]
theorem canonL_rules (l : List Rule) : canonL (l.map encR) = l.map encR := by
  rw [canonL_map, List.map_map]
  exact List.map_congr_left fun r _ => canon_encR r
attribute [go_sem] canon_encV canon_encF canon_encE canon_encR canonL_vals canonL_flds canonL_exps canonL_rules
end Av
/- Functions without a body: strings compared. -/
set_option linter.unusedSimpArgs false
namespace Go.Proofs
open Go Av

theorem ext_run {P : Program} {f : Nat} {fn : Func} {e : Array Value → Sem Value} (hf : P.funcs[f]? = some fn) (hname : (fn.name == "runtime.NumGoroutine") = false) (hb : fn.body.isNone = true)
    (hn : (Extern.findNext fn).isNone = true) (he : Extern.find fn = some e) {vs : Array Value} {w w' : World} {u : Value} (hr : (e vs).run P w = .ok u w') : (callFunc f vs).run P w = .ok (.value u) w' := by
  have hn' : Extern.findNext fn = none := by simpa using hn
  have hb' : fn.body = none := by simpa using hb
  have hname' : fn.name ≠ "runtime.NumGoroutine" := by simpa using hname
  simp [callFunc, hf, hname', hb', hn', he, hr]

/-- how two strings are ordered -/
def cmpS (a b : Str) : Int := Extern.BytealgCompare.cmp ⟨a.toArray⟩ ⟨b.toArray⟩

theorem cmpS_range (a b : Str) : cmpS a b = -1 ∨ cmpS a b = 0 ∨ cmpS a b = 1 := by
  unfold cmpS Extern.BytealgCompare.cmp
  split
  · split <;> simp
  · split
    · simp
    · split <;> simp

theorem ext217 (a b : Str) : CallOK Tryz.prog 217 [.d (.str a), .d (.str b)] [] (.d (.int .i64 (cmpS a b))) [] := by
  intro β A w H vs _ hc hvs
  refine .inr ⟨.int .i64 (cmpS a b), w, ?_, β, A, Stp.refl hc, .d _ _ (.int _ _ ?_)⟩
  · obtain ⟨hl, hv⟩ := hvs
    have h2 : vs.size = 2 := by simpa using hl.symm
    obtain ⟨x, y, rfl⟩ : ∃ x y, vs = #[x, y] := by
      refine ⟨vs[0], vs[1], ?_⟩
      apply Array.ext
      · simp [h2]
      · intro i h1 h2'
        have : i = 0 ∨ i = 1 := by omega
        rcases this with rfl | rfl <;> rfl
    have hx := (hv 0 _ x rfl rfl).of_d
    have hy := (hv 1 _ y rfl rfl).of_d
    cases hx
    cases hy
    refine ext_run (e := Extern.BytealgCompare.compare) Tryz.func217 (by kernel_rfl) (by kernel_rfl) (by kernel_rfl) (by kernel_rfl) ?_
    rfl
  · rcases cmpS_range a b with h | h | h <;> rw [h] <;> decide
end Go.Proofs
/- Ints and strings compared; cmp.Or. -/
set_option linter.unusedSimpArgs false
set_option maxRecDepth 10000
namespace Go.Proofs
open Go Av

theorem walk138 (k : IntKind) (a : Int) : PCon Tryz.prog 138 [.int k a] (.d (.bool false)) := by
  refine ok138.pcon (Nat.le_of_ble_eq_true rfl) trivial ?_
  simp only [go_sem, ir138, Nat.reduceAdd, Nat.reduceEqDiff, Nat.reduceBEq, Nat.reduceLeDiff, reduceCtorEq, ↓reduceIte]
  simp

theorem walk146 (a b : Str) : PCon Tryz.prog 146 [.str a, .str b] (.d (.int .i64 (cmpS a b))) := by
  refine ok146.pcon (Nat.le_of_ble_eq_true rfl) trivial ?_
  simp only [go_sem, ir146, Nat.reduceAdd, Nat.reduceEqDiff, Nat.reduceBEq, Nat.reduceLeDiff, reduceCtorEq, ↓reduceIte]
  refine wps_call rfl (ext217 a b) trivial ?_
  simp only [go_sem, Nat.reduceAdd, Nat.reduceEqDiff, Nat.reduceBEq, Nat.reduceLeDiff, reduceCtorEq, ↓reduceIte]

theorem walk78 (a b : Str) : PCon Tryz.prog 78 [.str a, .str b] (.d (.int .i64 (cmpS a b))) := by
  refine ok78.pcon (Nat.le_of_ble_eq_true rfl) trivial ?_
  simp only [go_sem, ir78, Nat.reduceAdd, Nat.reduceEqDiff, Nat.reduceBEq, Nat.reduceLeDiff, reduceCtorEq, ↓reduceIte]
  refine wps_call rfl ((walk146 a b).call trivial) trivial ?_
  simp only [go_sem, Nat.reduceAdd, Nat.reduceEqDiff, Nat.reduceBEq, Nat.reduceLeDiff, reduceCtorEq, ↓reduceIte]

def cmpI (a b : Int) : Int := if a < b then -1 else if b < a then 1 else 0

theorem walk63 (a b : Int) : PCon Tryz.prog 63 [.int .i64 a, .int .i64 b] (.d (.int .i64 (cmpI a b))) := by
  refine ok63.pcon (Nat.le_of_ble_eq_true rfl) trivial ?_
  simp only [go_sem, ir63, Nat.reduceAdd, Nat.reduceEqDiff, Nat.reduceBEq, Nat.reduceLeDiff, reduceCtorEq, ↓reduceIte]
  refine wps_call rfl ((walk138 .i64 a).call trivial) trivial ?_
  simp only [go_sem, Nat.reduceAdd, Nat.reduceEqDiff, Nat.reduceBEq, Nat.reduceLeDiff, reduceCtorEq, ↓reduceIte]
  refine wps_call rfl ((walk138 .i64 b).call trivial) trivial ?_
  simp only [go_sem, Nat.reduceAdd, Nat.reduceEqDiff, Nat.reduceBEq, Nat.reduceLeDiff, reduceCtorEq, ↓reduceIte]
  refine ⟨fun h => ?_, fun h => ⟨fun h2 => ?_, fun h2 => ?_⟩⟩
  · simp only [decide_eq_true_eq] at h; simp [cmpI, h]
  · simp only [decide_eq_true_eq, decide_eq_false_iff_not] at h h2
    have : b < a := h2
    simp [cmpI, h, this]
  · simp only [decide_eq_false_iff_not] at h h2
    have : ¬ b < a := h2
    simp [cmpI, h, this]
end Go.Proofs
/- cmp.Or. -/
set_option linter.unusedSimpArgs false
set_option maxRecDepth 10000
namespace Go.Proofs
open Go Av

def orI : List Int → Int
  | [] => 0
  | x :: r => if x = 0 then orI r else x

theorem orI_skip : ∀ (xs : List Int) (k : Nat), (∀ (j : Nat) (h : j < xs.length), j < k → xs[j] = 0) → orI xs = orI (xs.drop k)
  | [], k, _ => by simp
  | x :: r, 0, _ => rfl
  | x :: r, k + 1, h => by
    have h0 := h 0 (by simp) (by omega)
    simp only [List.getElem_cons_zero] at h0
    simp only [orI, h0, if_true, List.drop_succ_cons]
    exact orI_skip r k fun j hj hk => by have := h (j + 1) (by simpa using hj) (by omega); simpa using this

theorem walk62 (xs : List Int) (hl : xs.length ≤ 68719476736) : PCon Tryz.prog 62 [.list 1 (xs.map (.int .i64))] (.d (.int .i64 (orI xs))) := by
  refine ok62.pcon (Nat.le_of_ble_eq_true rfl) trivial ?_
  simp only [go_sem, ir62, Nat.reduceAdd, Nat.reduceEqDiff, Nat.reduceBEq, Nat.reduceLeDiff, reduceCtorEq, ↓reduceIte]
  refine wpc_loop (fun n s => ∃ k : Nat, k ≤ xs.length ∧ n = xs.length - k ∧ (∀ (j : Nat) (h : j < xs.length), j < k → xs[j] = 0) ∧
    s = ⟨[(3, .d (.int .i64 0)), (6, .d (.list 1 (xs.map (.int .i64)))), (7, .d (.int .i64 xs.length)), (8, .d (.int .i64 k))], []⟩) ?_ ?_
  · refine ⟨_, _, Wk.refl _, 0, Nat.zero_le _, rfl, by simp, ?_⟩
    simp
  · rintro n s ⟨k, hk, rfl, hinv, rfl⟩
    by_cases hlt : k < xs.length
    · have hx : nth (xs.map (Dat.int .i64)) k = .int .i64 xs[k] := by rw [nth_eq (by simpa using hlt)]; simp
      have hd : decide ((k : Int) < (xs.length : Int)) = true := by simp; omega
      simp only [go_sem, hx, hd, Int.toNat_natCast, Nat.reduceAdd, Nat.reduceEqDiff, Nat.reduceBEq, Nat.reduceLeDiff, reduceCtorEq, ↓reduceIte]
      refine ⟨by simp; omega, by simp, fun hne => ?_, fun heq => ?_⟩
      · simp only [bne_iff_ne, ne_eq] at hne
        rw [orI_skip xs k hinv, List.drop_eq_getElem_cons hlt]
        simp [orI, hne]
      · simp only [bne_eq_false_iff_eq] at heq
        simp only [go_sem, wrap64s k (by omega), Nat.reduceAdd, Nat.reduceEqDiff, Nat.reduceBEq, Nat.reduceLeDiff, reduceCtorEq, ↓reduceIte]
        refine ⟨xs.length - (k + 1), _, by omega, Wk.less ?_, k + 1, by omega, rfl, ?_, rfl⟩
        · simp only [go_sem, Nat.reduceAdd, Nat.reduceEqDiff, Nat.reduceBEq, Nat.reduceLeDiff, reduceCtorEq, ↓reduceIte]
        · intro j h1 hj
          by_cases e : j = k
          · subst e; exact heq
          · exact hinv j h1 (by omega)
    · have hd : decide ((k : Int) < (xs.length : Int)) = false := by simp; omega
      simp only [go_sem, hd, Nat.reduceAdd, Nat.reduceEqDiff, Nat.reduceBEq, Nat.reduceLeDiff, reduceCtorEq, ↓reduceIte]
      have : orI xs = 0 := by rw [orI_skip xs k hinv, List.drop_eq_nil_of_le (by omega)]; rfl
      rw [this]
end Go.Proofs
/- slices.CompareFunc over values. -/
set_option linter.unusedSimpArgs false
set_option maxRecDepth 10000
namespace Go.Proofs
open Go Av

def cmpL {α : Type} (f : α → α → Int) : List α → List α → Int
  | [], [] => 0
  | [], _ :: _ => -1
  | _ :: _, [] => 1
  | x :: xs, y :: ys => if f x y = 0 then cmpL f xs ys else f x y

theorem cmpL_skip {α : Type} {f : α → α → Int} : ∀ (xs ys : List α) (k : Nat), k ≤ xs.length → k ≤ ys.length → (∀ (j : Nat) (h1 : j < xs.length) (h2 : j < ys.length), j < k → f xs[j] ys[j] = 0) → cmpL f xs ys = cmpL f (xs.drop k) (ys.drop k)
  | xs, ys, 0, _, _, _ => by simp
  | x :: xs, y :: ys, k + 1, h1, h2, h => by
    have h0 := h 0 (by simp) (by simp) (by omega)
    simp only [List.getElem_cons_zero] at h0
    simp only [cmpL, h0, if_true, List.drop_succ_cons]
    exact cmpL_skip xs ys k (by simpa using h1) (by simpa using h2) fun j hj hj2 hk => by have := h (j + 1) (by simpa using hj) (by simpa using hj2) (by omega); simpa using this
  | [], _, k + 1, h1, _, _ => by simp at h1
  | _ :: _, [], k + 1, _, h2, _ => by simp at h2

theorem walk116 (xs ys : List Val) (f : Val → Val → Int) (g : Nat) (hl : xs.length ≤ 68719476736) (_hly : ys.length ≤ 68719476736)
    (h : ∀ x ∈ xs, ∀ y ∈ ys, CallOK Tryz.prog g [.d (encV x), .d (encV y)] [] (.d (.int .i64 (f x y))) []) :
    PCon Tryz.prog 116 [.list 6 (xs.map encV), .list 6 (ys.map encV), .fn (.func g) [] []] (.d (.int .i64 (cmpL f xs ys))) := by
  refine ok116.pcon (Nat.le_of_ble_eq_true rfl) trivial ?_
  simp only [go_sem, ir116, Nat.reduceAdd, Nat.reduceEqDiff, Nat.reduceBEq, Nat.reduceLeDiff, reduceCtorEq, ↓reduceIte]
  refine wpc_loop (fun n s => ∃ k : Nat, k ≤ xs.length ∧ k ≤ ys.length ∧ n = xs.length - k ∧ (∀ (j : Nat) (h1 : j < xs.length) (h2 : j < ys.length), j < k → f xs[j] ys[j] = 0) ∧
    s = ⟨[(0, .d (.list 6 (xs.map encV))), (1, .d (.list 6 (ys.map encV))), (2, .d (.fn (.func g) [] [])), (11, .d (.list 6 (xs.map encV))), (12, .d (.int .i64 xs.length)), (13, .d (.int .i64 k))], []⟩) ?_ ?_
  · refine ⟨_, _, Wk.refl _, 0, Nat.zero_le _, Nat.zero_le _, rfl, by simp, ?_⟩
    simp
  · rintro n s ⟨k, hk, hky, rfl, hinv, rfl⟩
    by_cases hlt : k < xs.length
    · have hx := nth_encV hlt
      have hd : decide ((k : Int) < (xs.length : Int)) = true := by simp; omega
      simp only [go_sem, hx, hd, Int.toNat_natCast, Nat.reduceAdd, Nat.reduceEqDiff, Nat.reduceBEq, Nat.reduceLeDiff, reduceCtorEq, ↓reduceIte]
      refine ⟨by simp; omega, fun hge => ?_, fun hge => ?_⟩
      · simp only [List.length_map, decide_eq_true_eq] at hge
        have hyk : k = ys.length := by omega
        rw [cmpL_skip xs ys k hk hky hinv, List.drop_eq_getElem_cons hlt, List.drop_eq_nil_of_le (show ys.length ≤ k by omega)]
        simp [cmpL]
      · simp only [List.length_map, decide_eq_false_iff_not] at hge
        have hlty : k < ys.length := by omega
        have hy := nth_encV hlty
        simp only [go_sem, hy, Int.toNat_natCast, Nat.reduceAdd, Nat.reduceEqDiff, Nat.reduceBEq, Nat.reduceLeDiff, reduceCtorEq, ↓reduceIte]
        have hc := h xs[k] (List.getElem_mem _) ys[k] (List.getElem_mem _)
        rw [encV_eq, encV_eq] at hc
        refine ⟨by simp; omega, wps_call rfl hc trivial ?_⟩
        simp only [go_sem, Nat.reduceAdd, Nat.reduceEqDiff, Nat.reduceBEq, Nat.reduceLeDiff, reduceCtorEq, ↓reduceIte]
        refine ⟨fun hne => ?_, fun heq => ?_⟩
        · simp only [bne_iff_ne, ne_eq] at hne
          rw [cmpL_skip xs ys k hk hky hinv, List.drop_eq_getElem_cons hlt, List.drop_eq_getElem_cons hlty]
          simp [cmpL, hne]
        · simp only [bne_eq_false_iff_eq] at heq
          simp only [go_sem, wrap64s k (by omega), Nat.reduceAdd, Nat.reduceEqDiff, Nat.reduceBEq, Nat.reduceLeDiff, reduceCtorEq, ↓reduceIte]
          refine ⟨xs.length - (k + 1), _, by omega, Wk.less ?_, k + 1, by omega, by omega, rfl, ?_, rfl⟩
          · simp only [go_sem, Nat.reduceAdd, Nat.reduceEqDiff, Nat.reduceBEq, Nat.reduceLeDiff, reduceCtorEq, ↓reduceIte]
          · intro j h1 h2 hj
            by_cases e : j = k
            · subst e; exact heq
            · exact hinv j h1 h2 (by omega)
    · have hd : decide ((k : Int) < (xs.length : Int)) = false := by simp; omega
      simp only [go_sem, hd, Nat.reduceAdd, Nat.reduceEqDiff, Nat.reduceBEq, Nat.reduceLeDiff, reduceCtorEq, ↓reduceIte]
      have e1 : xs.drop k = [] := List.drop_eq_nil_of_le (by omega)
      refine ⟨fun hs => ?_, fun hs => ?_⟩
      · simp only [List.length_map, decide_eq_true_eq] at hs
        rw [cmpL_skip xs ys k hk hky hinv, e1, List.drop_eq_getElem_cons (show k < ys.length by omega)]
        rfl
      · simp only [List.length_map, decide_eq_false_iff_not] at hs
        rw [cmpL_skip xs ys k hk hky hinv, e1, List.drop_eq_nil_of_le (show ys.length ≤ k by omega)]
        rfl
theorem walk117 (xs ys : List Fld) (f : Fld → Fld → Int) (g : Nat) (hl : xs.length ≤ 68719476736) (_hly : ys.length ≤ 68719476736)
    (h : ∀ x ∈ xs, ∀ y ∈ ys, CallOK Tryz.prog g [.d (encF x), .d (encF y)] [] (.d (.int .i64 (f x y))) []) :
    PCon Tryz.prog 117 [.list 7 (xs.map encF), .list 7 (ys.map encF), .fn (.func g) [] []] (.d (.int .i64 (cmpL f xs ys))) := by
  refine ok117.pcon (Nat.le_of_ble_eq_true rfl) trivial ?_
  simp only [go_sem, ir117, Nat.reduceAdd, Nat.reduceEqDiff, Nat.reduceBEq, Nat.reduceLeDiff, reduceCtorEq, ↓reduceIte]
  refine wpc_loop (fun n s => ∃ k : Nat, k ≤ xs.length ∧ k ≤ ys.length ∧ n = xs.length - k ∧ (∀ (j : Nat) (h1 : j < xs.length) (h2 : j < ys.length), j < k → f xs[j] ys[j] = 0) ∧
    s = ⟨[(0, .d (.list 7 (xs.map encF))), (1, .d (.list 7 (ys.map encF))), (2, .d (.fn (.func g) [] [])), (11, .d (.list 7 (xs.map encF))), (12, .d (.int .i64 xs.length)), (13, .d (.int .i64 k))], []⟩) ?_ ?_
  · refine ⟨_, _, Wk.refl _, 0, Nat.zero_le _, Nat.zero_le _, rfl, by simp, ?_⟩
    simp
  · rintro n s ⟨k, hk, hky, rfl, hinv, rfl⟩
    by_cases hlt : k < xs.length
    · have hx := nth_encF hlt
      have hd : decide ((k : Int) < (xs.length : Int)) = true := by simp; omega
      simp only [go_sem, hx, hd, Int.toNat_natCast, Nat.reduceAdd, Nat.reduceEqDiff, Nat.reduceBEq, Nat.reduceLeDiff, reduceCtorEq, ↓reduceIte]
      refine ⟨by simp; omega, fun hge => ?_, fun hge => ?_⟩
      · simp only [List.length_map, decide_eq_true_eq] at hge
        have hyk : k = ys.length := by omega
        rw [cmpL_skip xs ys k hk hky hinv, List.drop_eq_getElem_cons hlt, List.drop_eq_nil_of_le (show ys.length ≤ k by omega)]
        simp [cmpL]
      · simp only [List.length_map, decide_eq_false_iff_not] at hge
        have hlty : k < ys.length := by omega
        have hy := nth_encF hlty
        simp only [go_sem, hy, Int.toNat_natCast, Nat.reduceAdd, Nat.reduceEqDiff, Nat.reduceBEq, Nat.reduceLeDiff, reduceCtorEq, ↓reduceIte]
        have hc := h xs[k] (List.getElem_mem _) ys[k] (List.getElem_mem _)
        rw [encF_eq, encF_eq] at hc
        refine ⟨by simp; omega, wps_call rfl hc trivial ?_⟩
        simp only [go_sem, Nat.reduceAdd, Nat.reduceEqDiff, Nat.reduceBEq, Nat.reduceLeDiff, reduceCtorEq, ↓reduceIte]
        refine ⟨fun hne => ?_, fun heq => ?_⟩
        · simp only [bne_iff_ne, ne_eq] at hne
          rw [cmpL_skip xs ys k hk hky hinv, List.drop_eq_getElem_cons hlt, List.drop_eq_getElem_cons hlty]
          simp [cmpL, hne]
        · simp only [bne_eq_false_iff_eq] at heq
          simp only [go_sem, wrap64s k (by omega), Nat.reduceAdd, Nat.reduceEqDiff, Nat.reduceBEq, Nat.reduceLeDiff, reduceCtorEq, ↓reduceIte]
          refine ⟨xs.length - (k + 1), _, by omega, Wk.less ?_, k + 1, by omega, by omega, rfl, ?_, rfl⟩
          · simp only [go_sem, Nat.reduceAdd, Nat.reduceEqDiff, Nat.reduceBEq, Nat.reduceLeDiff, reduceCtorEq, ↓reduceIte]
          · intro j h1 h2 hj
            by_cases e : j = k
            · subst e; exact heq
            · exact hinv j h1 h2 (by omega)
    · have hd : decide ((k : Int) < (xs.length : Int)) = false := by simp; omega
      simp only [go_sem, hd, Nat.reduceAdd, Nat.reduceEqDiff, Nat.reduceBEq, Nat.reduceLeDiff, reduceCtorEq, ↓reduceIte]
      have e1 : xs.drop k = [] := List.drop_eq_nil_of_le (by omega)
      refine ⟨fun hs => ?_, fun hs => ?_⟩
      · simp only [List.length_map, decide_eq_true_eq] at hs
        rw [cmpL_skip xs ys k hk hky hinv, e1, List.drop_eq_getElem_cons (show k < ys.length by omega)]
        rfl
      · simp only [List.length_map, decide_eq_false_iff_not] at hs
        rw [cmpL_skip xs ys k hk hky hinv, e1, List.drop_eq_nil_of_le (show ys.length ≤ k by omega)]
        rfl
end Go.Proofs
/- value.Compare. -/
set_option linter.unusedSimpArgs false
set_option maxRecDepth 10000
namespace Go.Proofs
open Go Av

mutual
/-- no list is longer than memory bears -/
def okV : Val → Prop
  | .mk _ _ _ _ l f => l.length ≤ 68719476736 ∧ f.length ≤ 68719476736 ∧ okVs l ∧ okFs f
def okVs : List Val → Prop
  | [] => True
  | v :: r => okV v ∧ okVs r
def okF : Fld → Prop
  | .mk _ v => okV v
def okFs : List Fld → Prop
  | [] => True
  | v :: r => okF v ∧ okFs r
end
theorem okVs_mem : ∀ {l : List Val}, okVs l → ∀ x ∈ l, okV x
  | [], _, x, h => by cases h
  | v :: r, ho, x, h => by
    simp only [okVs] at ho
    rcases List.mem_cons.1 h with rfl | h
    · exact ho.1
    · exact okVs_mem ho.2 x h
theorem okFs_mem : ∀ {l : List Fld}, okFs l → ∀ x ∈ l, okF x
  | [], _, x, h => by cases h
  | v :: r, ho, x, h => by
    simp only [okFs] at ho
    rcases List.mem_cons.1 h with rfl | h
    · exact ho.1
    · exact okFs_mem ho.2 x h

mutual
def cmpV : Val → Val → Int
  | .mk k i s t l f, b => orI [cmpI k b.kind, cmpI i b.int, cmpI s b.scale, cmpS t b.text, cmpVs l b.list, cmpFs f b.fields]
def cmpVs : List Val → List Val → Int
  | [], [] => 0
  | [], _ :: _ => -1
  | _ :: _, [] => 1
  | x :: xs, y :: ys => if cmpV x y = 0 then cmpVs xs ys else cmpV x y
def cmpF : Fld → Fld → Int
  | .mk n v, g => orI [cmpS n g.name, cmpV v g.value]
def cmpFs : List Fld → List Fld → Int
  | [], [] => 0
  | [], _ :: _ => -1
  | _ :: _, [] => 1
  | x :: xs, y :: ys => if cmpF x y = 0 then cmpFs xs ys else cmpF x y
end
theorem cmpVs_eq : ∀ (xs ys : List Val), cmpVs xs ys = cmpL cmpV xs ys
  | [], [] => by simp [cmpVs, cmpL]
  | [], _ :: _ => by simp [cmpVs, cmpL]
  | _ :: _, [] => by simp [cmpVs, cmpL]
  | x :: xs, y :: ys => by simp [cmpVs, cmpL, cmpVs_eq xs ys]
theorem cmpFs_eq : ∀ (xs ys : List Fld), cmpFs xs ys = cmpL cmpF xs ys
  | [], [] => by simp [cmpFs, cmpL]
  | [], _ :: _ => by simp [cmpFs, cmpL]
  | _ :: _, [] => by simp [cmpFs, cmpL]
  | x :: xs, y :: ys => by simp [cmpFs, cmpL, cmpFs_eq xs ys]

theorem step118 (n n' : Str) (v v' : Val) (h : PCon Tryz.prog 51 [encV v, encV v'] (.d (.int .i64 (cmpV v v')))) :
    PCon Tryz.prog 118 [encF (.mk n v), encF (.mk n' v')] (.d (.int .i64 (cmpF (.mk n v) (.mk n' v')))) := by
  refine ok118.pcon (Nat.le_of_ble_eq_true rfl) trivial ?_
  rw [encF_eq, encF_eq]
  have hc := h.call trivial
  rw [encV_eq, encV_eq] at hc
  simp only [go_sem, ir118, Fld.name, Fld.value, Nat.reduceAdd, Nat.reduceEqDiff, Nat.reduceBEq, Nat.reduceLeDiff, reduceCtorEq, ↓reduceIte]
  refine wpsL_call rfl ((walk78 n n').call trivial) trivial ?_
  simp only [go_sem, Nat.reduceAdd, Nat.reduceEqDiff, Nat.reduceBEq, Nat.reduceLeDiff, reduceCtorEq, ↓reduceIte]
  refine wpsL_call rfl hc trivial ?_
  simp only [go_sem, Nat.reduceAdd, Nat.reduceEqDiff, Nat.reduceBEq, Nat.reduceLeDiff, reduceCtorEq, ↓reduceIte]
  refine ⟨by simp, wpsL_call rfl ((walk62 [cmpS n n', cmpV v v'] (by simp)).call trivial) trivial ?_⟩
  simp only [go_sem, Nat.reduceAdd, Nat.reduceEqDiff, Nat.reduceBEq, Nat.reduceLeDiff, reduceCtorEq, ↓reduceIte]
  exact ⟨rfl, by simp only [cmpF, Fld.name, Fld.value]⟩

theorem step51 (a b : Val) (ha : a.list.length ≤ 68719476736) (ha2 : a.fields.length ≤ 68719476736) (hb : b.list.length ≤ 68719476736) (hb2 : b.fields.length ≤ 68719476736)
    (h1 : ∀ x ∈ a.list, ∀ y ∈ b.list, CallOK Tryz.prog 51 [.d (encV x), .d (encV y)] [] (.d (.int .i64 (cmpV x y))) [])
    (h2 : ∀ x ∈ a.fields, ∀ y ∈ b.fields, CallOK Tryz.prog 118 [.d (encF x), .d (encF y)] [] (.d (.int .i64 (cmpF x y))) []) :
    PCon Tryz.prog 51 [encV a, encV b] (.d (.int .i64 (cmpV a b))) := by
  refine ok51.pcon (Nat.le_of_ble_eq_true rfl) trivial ?_
  rw [encV_eq, encV_eq]
  simp only [go_sem, ir51, Nat.reduceAdd, Nat.reduceEqDiff, Nat.reduceBEq, Nat.reduceLeDiff, reduceCtorEq, ↓reduceIte]
  refine wpsL_call rfl ((walk63 a.kind b.kind).call trivial) trivial ?_
  simp only [go_sem, Nat.reduceAdd, Nat.reduceEqDiff, Nat.reduceBEq, Nat.reduceLeDiff, reduceCtorEq, ↓reduceIte]
  refine wpsL_call rfl ((walk63 a.int b.int).call trivial) trivial ?_
  simp only [go_sem, Nat.reduceAdd, Nat.reduceEqDiff, Nat.reduceBEq, Nat.reduceLeDiff, reduceCtorEq, ↓reduceIte]
  refine wpsL_call rfl ((walk63 a.scale b.scale).call trivial) trivial ?_
  simp only [go_sem, Nat.reduceAdd, Nat.reduceEqDiff, Nat.reduceBEq, Nat.reduceLeDiff, reduceCtorEq, ↓reduceIte]
  refine wpsL_call rfl ((walk78 a.text b.text).call trivial) trivial ?_
  simp only [go_sem, Nat.reduceAdd, Nat.reduceEqDiff, Nat.reduceBEq, Nat.reduceLeDiff, reduceCtorEq, ↓reduceIte]
  refine wpsL_call rfl ((walk116 a.list b.list cmpV 51 ha hb h1).call trivial) trivial ?_
  simp only [go_sem, Nat.reduceAdd, Nat.reduceEqDiff, Nat.reduceBEq, Nat.reduceLeDiff, reduceCtorEq, ↓reduceIte]
  refine wpsL_call rfl ((walk117 a.fields b.fields cmpF 118 ha2 hb2 h2).call trivial) trivial ?_
  simp only [go_sem, Nat.reduceAdd, Nat.reduceEqDiff, Nat.reduceBEq, Nat.reduceLeDiff, reduceCtorEq, ↓reduceIte]
  refine ⟨by simp, wpsL_call rfl ((walk62 [cmpI a.kind b.kind, cmpI a.int b.int, cmpI a.scale b.scale, cmpS a.text b.text, cmpL cmpV a.list b.list, cmpL cmpF a.fields b.fields] (by simp)).call trivial) trivial ?_⟩
  simp only [go_sem, Nat.reduceAdd, Nat.reduceEqDiff, Nat.reduceBEq, Nat.reduceLeDiff, reduceCtorEq, ↓reduceIte]
  refine ⟨rfl, ?_⟩
  cases a
  simp only [cmpV, Val.kind, Val.int, Val.scale, Val.text, Val.list, Val.fields, cmpVs_eq, cmpFs_eq]

mutual
theorem walk51 : ∀ (a : Val), okV a → ∀ b, okV b → PCon Tryz.prog 51 [encV a, encV b] (.d (.int .i64 (cmpV a b)))
  | .mk k i s t l f, ha, b, hb => by
    simp only [okV] at ha
    obtain ⟨a1, a2, a3, a4⟩ := ha
    have hb' : b.list.length ≤ 68719476736 ∧ b.fields.length ≤ 68719476736 ∧ okVs b.list ∧ okFs b.fields := by cases b; simpa only [okV, Val.list, Val.fields] using hb
    exact step51 _ b a1 a2 hb'.1 hb'.2.1 (fun x hx y hy => (walkVs l a3 x hx y (okVs_mem hb'.2.2.1 y hy)).call trivial) (fun x hx y hy => (walkFs f a4 x hx y (okFs_mem hb'.2.2.2 y hy)).call trivial)
theorem walkVs : ∀ (l : List Val), okVs l → ∀ x ∈ l, ∀ b, okV b → PCon Tryz.prog 51 [encV x, encV b] (.d (.int .i64 (cmpV x b)))
  | [], _, x, h, _, _ => by cases h
  | v :: r, ho, x, h, b, hb => by
    simp only [okVs] at ho
    by_cases e : x = v
    · rw [e]; exact walk51 v ho.1 b hb
    · exact walkVs r ho.2 x ((List.mem_cons.1 h).resolve_left e) b hb
theorem walk118 : ∀ (a : Fld), okF a → ∀ b, okF b → PCon Tryz.prog 118 [encF a, encF b] (.d (.int .i64 (cmpF a b)))
  | .mk n v, ha, .mk n' v', hb => step118 n n' v v' (walk51 v (by simpa only [okF] using ha) v' (by simpa only [okF] using hb))
theorem walkFs : ∀ (l : List Fld), okFs l → ∀ x ∈ l, ∀ b, okF b → PCon Tryz.prog 118 [encF x, encF b] (.d (.int .i64 (cmpF x b)))
  | [], _, x, h, _, _ => by cases h
  | v :: r, ho, x, h, b, hb => by
    simp only [okFs] at ho
    by_cases e : x = v
    · rw [e]; exact walk118 v ho.1 b hb
    · exact walkFs r ho.2 x ((List.mem_cons.1 h).resolve_left e) b hb
end
end Go.Proofs
/- slices.EqualFunc over values, expressions and rules (printed by a program); value.Equal. -/
set_option linter.unusedSimpArgs false
set_option maxRecDepth 10000
namespace Go.Proofs
open Go Av

def eqF {α : Type} (eq : α → α → Bool) (xs ys : List α) : Bool := xs.length == ys.length && (xs.zip ys).all fun p => eq p.1 p.2

theorem eqF_iff {α : Type} {eq : α → α → Bool} {xs ys : List α} (hl : xs.length = ys.length) : eqF eq xs ys = true ↔ ∀ (j : Nat) (h1 : j < xs.length) (h2 : j < ys.length), eq xs[j] ys[j] = true := by
  simp only [eqF, hl, beq_self_eq_true, Bool.true_and, List.all_eq_true]
  constructor
  · intro h j h1 h2
    have : (xs.zip ys)[j]? = some (xs[j], ys[j]) := by rw [List.getElem?_zip_eq_some]; simp [h1, h2]
    exact h _ (List.mem_of_getElem? this)
  · intro h p hp
    obtain ⟨j, hj⟩ := List.getElem?_of_mem hp
    rw [List.getElem?_zip_eq_some] at hj
    obtain ⟨h1, e1⟩ := List.getElem?_eq_some_iff.1 hj.1
    obtain ⟨h2, e2⟩ := List.getElem?_eq_some_iff.1 hj.2
    rw [← e1, ← e2]
    exact h j (by omega) (by omega)

theorem walk72 (xs ys : List Val) (eq : Val → Val → Bool) (g : Nat) (hl : xs.length ≤ 68719476736)
    (h : ∀ x ∈ xs, ∀ y ∈ ys, CallOK Tryz.prog g [.d (encV x), .d (encV y)] [] (.d (.bool (eq x y))) []) :
    PCon Tryz.prog 72 [.list 6 (xs.map encV), .list 6 (ys.map encV), .fn (.func g) [] []] (.d (.bool (eqF eq xs ys))) := by
  refine ok72.pcon (Nat.le_of_ble_eq_true rfl) trivial ?_
  simp only [go_sem, ir72, Nat.reduceAdd, Nat.reduceEqDiff, Nat.reduceBEq, Nat.reduceLeDiff, reduceCtorEq, ↓reduceIte]
  refine ⟨fun hne => ?_, fun heq => ?_⟩
  · simp only [List.length_map, bne_iff_ne, ne_eq, Int.ofNat_inj] at hne
    simp [eqF, hne]
  simp only [List.length_map, bne_eq_false_iff_eq, Int.ofNat_inj] at heq
  refine wpc_loop (fun n s => ∃ k : Nat, k ≤ xs.length ∧ n = xs.length - k ∧ (∀ (j : Nat) (h1 : j < xs.length) (h2 : j < ys.length), j < k → eq xs[j] ys[j] = true) ∧
    s = ⟨[(1, .d (.list 6 (ys.map encV))), (2, .d (.fn (.func g) [] [])), (15, .d (.list 6 (xs.map encV))), (16, .d (.int .i64 xs.length)), (17, .d (.int .i64 k))], []⟩) ?_ ?_
  · refine ⟨_, _, Wk.refl _, 0, Nat.zero_le _, rfl, by simp, ?_⟩
    simp
  · rintro n s ⟨k, hk, rfl, hinv, rfl⟩
    by_cases hlt : k < xs.length
    · have hlty : k < ys.length := by omega
      have hx := nth_encV hlt
      have hy := nth_encV hlty
      have hd : decide ((k : Int) < (xs.length : Int)) = true := by simp; omega
      simp only [go_sem, hx, hy, hd, Int.toNat_natCast, Nat.reduceAdd, Nat.reduceEqDiff, Nat.reduceBEq, Nat.reduceLeDiff, reduceCtorEq, ↓reduceIte]
      have hc := h xs[k] (List.getElem_mem _) ys[k] (List.getElem_mem _)
      rw [encV_eq, encV_eq] at hc
      refine ⟨by simp; omega, by simp; omega, wps_call rfl hc trivial ?_⟩
      simp only [go_sem, Nat.reduceAdd, Nat.reduceEqDiff, Nat.reduceBEq, Nat.reduceLeDiff, reduceCtorEq, ↓reduceIte]
      refine ⟨fun hne => ?_, fun heq' => ?_⟩
      · have : eqF eq xs ys = false := by
          cases h0 : eqF eq xs ys with
          | false => rfl
          | true => rw [(eqF_iff heq).1 h0 k hlt (by omega)] at hne; cases hne
        rw [this]
      · simp only [go_sem, wrap64s k (by omega), Nat.reduceAdd, Nat.reduceEqDiff, Nat.reduceBEq, Nat.reduceLeDiff, reduceCtorEq, ↓reduceIte]
        refine ⟨xs.length - (k + 1), _, by omega, Wk.less ?_, k + 1, by omega, rfl, ?_, rfl⟩
        · simp only [go_sem, Nat.reduceAdd, Nat.reduceEqDiff, Nat.reduceBEq, Nat.reduceLeDiff, reduceCtorEq, ↓reduceIte]
        · intro j h1 h2 hj
          by_cases e : j = k
          · subst e; simpa using heq'
          · exact hinv j h1 h2 (by omega)
    · have hd : decide ((k : Int) < (xs.length : Int)) = false := by simp; omega
      simp only [go_sem, hd, Nat.reduceAdd, Nat.reduceEqDiff, Nat.reduceBEq, Nat.reduceLeDiff, reduceCtorEq, ↓reduceIte]
      rw [(eqF_iff heq).2 fun j h1 h2 => hinv j h1 h2 (by omega)]

theorem walk73 (xs ys : List Exp) (eq : Exp → Exp → Bool) (g : Nat) (hl : xs.length ≤ 68719476736)
    (h : ∀ x ∈ xs, ∀ y ∈ ys, CallOK Tryz.prog g [.d (encE x), .d (encE y)] [] (.d (.bool (eq x y))) []) :
    PCon Tryz.prog 73 [.list 5 (xs.map encE), .list 5 (ys.map encE), .fn (.func g) [] []] (.d (.bool (eqF eq xs ys))) := by
  refine ok73.pcon (Nat.le_of_ble_eq_true rfl) trivial ?_
  simp only [go_sem, ir73, Nat.reduceAdd, Nat.reduceEqDiff, Nat.reduceBEq, Nat.reduceLeDiff, reduceCtorEq, ↓reduceIte]
  refine ⟨fun hne => ?_, fun heq => ?_⟩
  · simp only [List.length_map, bne_iff_ne, ne_eq, Int.ofNat_inj] at hne
    simp [eqF, hne]
  simp only [List.length_map, bne_eq_false_iff_eq, Int.ofNat_inj] at heq
  refine wpc_loop (fun n s => ∃ k : Nat, k ≤ xs.length ∧ n = xs.length - k ∧ (∀ (j : Nat) (h1 : j < xs.length) (h2 : j < ys.length), j < k → eq xs[j] ys[j] = true) ∧
    s = ⟨[(1, .d (.list 5 (ys.map encE))), (2, .d (.fn (.func g) [] [])), (15, .d (.list 5 (xs.map encE))), (16, .d (.int .i64 xs.length)), (17, .d (.int .i64 k))], []⟩) ?_ ?_
  · refine ⟨_, _, Wk.refl _, 0, Nat.zero_le _, rfl, by simp, ?_⟩
    simp
  · rintro n s ⟨k, hk, rfl, hinv, rfl⟩
    by_cases hlt : k < xs.length
    · have hlty : k < ys.length := by omega
      have hx := nth_encE hlt
      have hy := nth_encE hlty
      have hd : decide ((k : Int) < (xs.length : Int)) = true := by simp; omega
      simp only [go_sem, hx, hy, hd, Int.toNat_natCast, Nat.reduceAdd, Nat.reduceEqDiff, Nat.reduceBEq, Nat.reduceLeDiff, reduceCtorEq, ↓reduceIte]
      have hc := h xs[k] (List.getElem_mem _) ys[k] (List.getElem_mem _)
      rw [encE_eq, encE_eq] at hc
      refine ⟨by simp; omega, by simp; omega, wps_call rfl hc trivial ?_⟩
      simp only [go_sem, Nat.reduceAdd, Nat.reduceEqDiff, Nat.reduceBEq, Nat.reduceLeDiff, reduceCtorEq, ↓reduceIte]
      refine ⟨fun hne => ?_, fun heq' => ?_⟩
      · have : eqF eq xs ys = false := by
          cases h0 : eqF eq xs ys with
          | false => rfl
          | true => rw [(eqF_iff heq).1 h0 k hlt (by omega)] at hne; cases hne
        rw [this]
      · simp only [go_sem, wrap64s k (by omega), Nat.reduceAdd, Nat.reduceEqDiff, Nat.reduceBEq, Nat.reduceLeDiff, reduceCtorEq, ↓reduceIte]
        refine ⟨xs.length - (k + 1), _, by omega, Wk.less ?_, k + 1, by omega, rfl, ?_, rfl⟩
        · simp only [go_sem, Nat.reduceAdd, Nat.reduceEqDiff, Nat.reduceBEq, Nat.reduceLeDiff, reduceCtorEq, ↓reduceIte]
        · intro j h1 h2 hj
          by_cases e : j = k
          · subst e; simpa using heq'
          · exact hinv j h1 h2 (by omega)
    · have hd : decide ((k : Int) < (xs.length : Int)) = false := by simp; omega
      simp only [go_sem, hd, Nat.reduceAdd, Nat.reduceEqDiff, Nat.reduceBEq, Nat.reduceLeDiff, reduceCtorEq, ↓reduceIte]
      rw [(eqF_iff heq).2 fun j h1 h2 => hinv j h1 h2 (by omega)]

theorem walk16 (a b : Val) (ha : okV a) (hb : okV b) : PCon Tryz.prog 16 [encV a, encV b] (.d (.bool (cmpV a b == 0))) := by
  refine ok16.pcon (Nat.le_of_ble_eq_true rfl) trivial ?_
  have hc := (walk51 a ha b hb).call trivial
  rw [encV_eq, encV_eq] at hc
  rw [encV_eq, encV_eq]
  simp only [go_sem, ir16, Nat.reduceAdd, Nat.reduceEqDiff, Nat.reduceBEq, Nat.reduceLeDiff, reduceCtorEq, ↓reduceIte]
  refine wps_call rfl hc trivial ?_
  simp only [go_sem, Nat.reduceAdd, Nat.reduceEqDiff, Nat.reduceBEq, Nat.reduceLeDiff, reduceCtorEq, ↓reduceIte]
end Go.Proofs
/- expr.Equal, mapping.Equal. -/
set_option linter.unusedSimpArgs false
set_option maxRecDepth 10000
namespace Go.Proofs
open Go Av

mutual
def okE : Exp → Prop
  | .mk _ _ _ v a => v.length ≤ 68719476736 ∧ a.length ≤ 68719476736 ∧ okVs v ∧ okEs a
def okEs : List Exp → Prop
  | [] => True
  | v :: r => okE v ∧ okEs r
end
theorem okEs_mem : ∀ {l : List Exp}, okEs l → ∀ x ∈ l, okE x
  | [], _, x, h => by cases h
  | v :: r, ho, x, h => by
    simp only [okEs] at ho
    rcases List.mem_cons.1 h with rfl | h
    · exact ho.1
    · exact okEs_mem ho.2 x h

mutual
def eqE : Exp → Exp → Bool
  | .mk o i t v a, b => o == b.op && i == b.int && t == b.text && eqF (fun x y => cmpV x y == 0) v b.value && eqEs a b.args
def eqEs : List Exp → List Exp → Bool
  | [], [] => true
  | x :: xs, y :: ys => eqE x y && eqEs xs ys
  | _, _ => false
end
theorem eqEs_eq : ∀ (xs ys : List Exp), eqEs xs ys = eqF eqE xs ys
  | [], [] => by simp [eqEs, eqF]
  | [], _ :: _ => by simp [eqEs, eqF]
  | _ :: _, [] => by simp [eqEs, eqF]
  | x :: xs, y :: ys => by
    have := eqEs_eq xs ys
    simp only [eqEs, eqF, List.length_cons, List.zip_cons_cons, List.all_cons, this]
    cases eqE x y <;> simp

theorem step29 (a b : Exp) (ha : a.value.length ≤ 68719476736) (ha2 : a.args.length ≤ 68719476736)
    (h1 : ∀ x ∈ a.value, ∀ y ∈ b.value, CallOK Tryz.prog 16 [.d (encV x), .d (encV y)] [] (.d (.bool (cmpV x y == 0))) [])
    (h2 : ∀ x ∈ a.args, ∀ y ∈ b.args, CallOK Tryz.prog 29 [.d (encE x), .d (encE y)] [] (.d (.bool (eqE x y))) []) :
    PCon Tryz.prog 29 [encE a, encE b] (.d (.bool (eqE a b))) := by
  refine ok29.pcon (Nat.le_of_ble_eq_true rfl) trivial ?_
  rw [encE_eq, encE_eq]
  simp only [go_sem, ir29, Nat.reduceAdd, Nat.reduceEqDiff, Nat.reduceBEq, Nat.reduceLeDiff, reduceCtorEq, ↓reduceIte]
  refine scQ_pure (a.int == b.int) (fun _ => ?_) ?_
  all_goals simp only [go_sem, Nat.reduceAdd, Nat.reduceEqDiff, Nat.reduceBEq, Nat.reduceLeDiff, reduceCtorEq, ↓reduceIte]
  refine scQ_pure (a.text == b.text) (fun _ => ?_) ?_
  all_goals simp only [go_sem, Nat.reduceAdd, Nat.reduceEqDiff, Nat.reduceBEq, Nat.reduceLeDiff, reduceCtorEq, ↓reduceIte]
  refine scQ_pure (eqF (fun x y => cmpV x y == 0) a.value b.value) (fun _ => ?_) ?_
  all_goals simp only [go_sem, Nat.reduceAdd, Nat.reduceEqDiff, Nat.reduceBEq, Nat.reduceLeDiff, reduceCtorEq, ↓reduceIte]
  · refine wps_call rfl ((walk72 a.value b.value _ 16 ha h1).call trivial) trivial ?_
    simp only [go_sem, Nat.reduceAdd, Nat.reduceEqDiff, Nat.reduceBEq, Nat.reduceLeDiff, reduceCtorEq, ↓reduceIte]
  refine scQ_pure (eqF eqE a.args b.args) (fun _ => ?_) ?_
  all_goals simp only [go_sem, Nat.reduceAdd, Nat.reduceEqDiff, Nat.reduceBEq, Nat.reduceLeDiff, reduceCtorEq, ↓reduceIte]
  · refine wps_call rfl ((walk73 a.args b.args _ 29 ha2 h2).call trivial) trivial ?_
    simp only [go_sem, Nat.reduceAdd, Nat.reduceEqDiff, Nat.reduceBEq, Nat.reduceLeDiff, reduceCtorEq, ↓reduceIte]
  · cases a
    simp only [eqE, Exp.op, Exp.int, Exp.text, Exp.value, Exp.args, eqEs_eq]

mutual
theorem walk29 : ∀ (a : Exp), okE a → ∀ b, okE b → PCon Tryz.prog 29 [encE a, encE b] (.d (.bool (eqE a b)))
  | .mk o i t v l, ha, b, hb => by
    simp only [okE] at ha
    obtain ⟨a1, a2, a3, a4⟩ := ha
    have hb' : okVs b.value ∧ okEs b.args := by cases b; simp only [okE] at hb; exact ⟨hb.2.2.1, hb.2.2.2⟩
    exact step29 _ b a1 a2 (fun x hx y hy => (walk16 x y (okVs_mem a3 x hx) (okVs_mem hb'.1 y hy)).call trivial) (fun x hx y hy => (walkEs l a4 x hx y (okEs_mem hb'.2 y hy)).call trivial)
theorem walkEs : ∀ (l : List Exp), okEs l → ∀ x ∈ l, ∀ b, okE b → PCon Tryz.prog 29 [encE x, encE b] (.d (.bool (eqE x b)))
  | [], _, x, h, _, _ => by cases h
  | v :: r, ho, x, h, b, hb => by
    simp only [okEs] at ho
    by_cases e : x = v
    · rw [e]; exact walk29 v ho.1 b hb
    · exact walkEs r ho.2 x ((List.mem_cons.1 h).resolve_left e) b hb
end

def eqR (a b : Rule) : Bool := a.target == b.target && eqE a.expr b.expr
def eqM (a b : List Rule) : Bool := eqF eqR a b
def okM (m : List Rule) : Prop := m.length ≤ 68719476736 ∧ ∀ r ∈ m, okE r.expr

end Go.Proofs
