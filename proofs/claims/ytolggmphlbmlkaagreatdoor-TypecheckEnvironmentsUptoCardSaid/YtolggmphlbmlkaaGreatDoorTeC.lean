/- Part C of a proof. -/
import Derived.Test.YtolggmphlbmlkaaGreatDoorTeB
import Derived.Test.YtolggmphlbmlkaaGreatDoorTeA
set_option linter.unusedVariables false
set_option linter.unusedSimpArgs false
set_option linter.unusedSectionVars false
set_option linter.constructorNameAsVariable false
set_option linter.unnecessarySimpa false
set_option maxRecDepth 10000
namespace Av
open Go
variable [Glb] [Rls]
variable {τ : Tmps} {e : En} {t x : Nat} {H : Heap} {E : List En} {L : Nat → Bool}
def sel (L : Nat → Bool) : List En → Nat → List En
 | [], _ => []
 | e :: r, k => if L k then e :: sel L r (k + 1) else sel L r (k + 1)
def foldT (τ : Tmps) (E : List En) : Tmps := E.foldl setT τ
def foldH (H : Heap) (E : List En) : Heap := E.foldl setH H
def wT (t : Nat) (e : En) : Bool := e.dst == some t
def wH (x : Nat) (e : En) : Bool := (e.ups.map (·.1)).contains x
theorem setT_other (h : wT t e = false) : setT τ e t = τ t := by
 unfold setT wT at *;cases hd : e.dst with
 | none => rfl
 | some d =>
  rw [hd] at h;simp only [upd];rw [if_neg];intro e';subst e';simp at h
theorem setT_at (h : wT t e = true) : setT τ e t = some e.v := by
 unfold setT wT at *;have hd : e.dst = some t := sX h;rw [hd];simp [upd]
theorem setH_other (h : wH x e = false) : setH H e x = H x := by
 refine hputs_other _ _ _ ?_;intro u hu hx;simp only [wH, List.contains_eq_mem, decide_eq_false_iff_not] at h;exact h (List.mem_map.2 ⟨u, hu, hx⟩)
theorem hputs_in : ∀ (ups : List (Nat × Obj)) (H H' : Heap) (x : Nat), x ∈ ups.map (·.1) → hputs H ups x = hputs H' ups x
 | [], _, _, _, h => by cases h
 | (i, o) :: r, H, H', x, h => by
  simp only [hputs];by_cases hx : x ∈ r.map (·.1)
  ·exact hputs_in r _ _ x hx
  ·have : x = i := by simpa [hx] using h
   subst this;refine hputs_eq r ?_;simp [upd]
theorem setH_at {H' : Heap} (h : wH x e = true) : setH H e x = setH H' e x :=
 hputs_in _ _ _ _ (by simpa [wH] using h)
theorem foldT_filter (t : Nat) : ∀ (E : List En) (τ τ' : Tmps), τ t = τ' t → foldT τ E t = foldT τ' (E.filter (wT t)) t
 | [], _, _, h => h
 | e :: r, τ, τ', h => by
  cases hw : wT t e with
  | true =>
   rw [List.filter_cons_of_pos hw];exact foldT_filter t r _ _ (by simp only [setT_at hw])
  | false =>
   rw [List.filter_cons_of_neg (by simp [hw])];exact foldT_filter t r _ _ (by rw [setT_other hw]; exact h)
theorem foldH_filter (x : Nat) : ∀ (E : List En) (H H' : Heap), H x = H' x → foldH H E x = foldH H' (E.filter (wH x)) x
 | [], _, _, h => h
 | e :: r, H, H', h => by
  cases hw : wH x e with
  | true =>
   rw [List.filter_cons_of_pos hw];exact foldH_filter x r _ _ (setH_at hw)
  | false =>
   rw [List.filter_cons_of_neg (by simp [hw])];exact foldH_filter x r _ _ (by rw [setH_other hw]; exact h)
theorem sel_filter (p : En → Bool) {L L' : Nat → Bool} : ∀ (E : List En) (k : Nat), (∀ (j : Nat) e, E[j]? = some e → p e = true → L (k + j) = L' (k + j)) → (sel L E k).filter p = (sel L' E k).filter p
 | [], _, _ => rfl
 | e :: r, k, h => by
  have ih := sel_filter p (L := L) (L' := L') r (k + 1) fun j e' he hp => by have := h (j + 1) e' (sX he) hp; rwa [show k + (j + 1) = k + 1 + j by omega] at this
  simp only [sel];cases hp : p e with
  | true =>
   have h0 := h 0 e rfl hp;rw [Nat.add_zero] at h0;rw [h0];split
   ·rw [List.filter_cons_of_pos hp, List.filter_cons_of_pos hp, ih]
   ·exact ih
  | false =>
   have hn : ¬ p e = true := by simp [hp]
   have e1 : ∀ X, (e :: X).filter p = X.filter p := fun X => List.filter_cons_of_neg hn
   split <;> split <;> (try simp only [e1]) <;> exact ih
theorem foldT_sel {L' : Nat → Bool} (h : ∀ (j : Nat) e, E[j]? = some e → wT t e = true → L j = L' j) : foldT τ (sel L E 0) t = foldT τ (sel L' E 0) t :=
 (foldT_filter t (sel L E 0) τ τ rfl).trans ((congrArg (fun l => foldT τ l t) (sel_filter (wT t) E 0 (fun j e he hp => by rw [Nat.zero_add]; exact h j e he hp))).trans (foldT_filter t (sel L' E 0) τ τ rfl).symm)
theorem foldH_sel {L' : Nat → Bool} (h : ∀ (j : Nat) e, E[j]? = some e → wH x e = true → L j = L' j) : foldH H (sel L E 0) x = foldH H (sel L' E 0) x :=
 (foldH_filter x (sel L E 0) H H rfl).trans ((congrArg (fun l => foldH H l x) (sel_filter (wH x) E 0 (fun j e he hp => by rw [Nat.zero_add]; exact h j e he hp))).trans (foldH_filter x (sel L' E 0) H H rfl).symm)
theorem sel_lt : ∀ (E : List En) (i k : Nat), sel (fun j => decide (j < i)) E k = E.take (i - k)
 | [], i, k => by simp [sel]
 | e :: r, i, k => by
  simp only [sel, sel_lt r i (k + 1)];by_cases h : k < i
  ·have : i - k = (i - (k + 1)) + 1 := oM;rw [this, List.take_succ_cons];simp [h]
  ·have h1 : i - k = 0 := oM;have h2 : i - (k + 1) = 0 := oM;simp [h, h1, h2]
theorem sel_none : ∀ (E : List En) (k : Nat), (∀ j e, E[j]? = some e → L (k + j) = false) → sel L E k = []
 | [], _, _ => rfl
 | e :: r, k, h => by
  have h0 := h 0 e rfl;rw [Nat.add_zero] at h0;simp only [sel, h0];exact sel_none r (k + 1) fun j e' he => by have := h (j + 1) e' (sX he); rwa [show k + (j + 1) = k + 1 + j by omega] at this
theorem foldT_last {τ : Tmps} {L : Nat → Bool} {t : Nat} : ∀ (E : List En) (k i : Nat) (e : En), E[i]? = some e → wT t e = true → L (k + i) = true → (∀ j e', E[j]? = some e' → wT t e' = true → i < j → L (k + j) = false) →
  foldT τ (sel L E k) t = some e.v
 | [], _, _, _, h, _, _, _ => by simp at h
 | e0 :: r, k, 0, e, h, hw, hL, hn => by
  simp only [List.getElem?_cons_zero, Option.some.injEq] at h;subst h;rw [Nat.add_zero] at hL;simp only [sel, hL, if_true];show foldT (setT τ e0) (sel L r (k + 1)) t = _;rw [foldT_filter t _ _ (fun _ => some e0.v) (setT_at hw)];have : (sel L r (k + 1)).filter (wT t) = (sel (fun _ => false) r (k + 1)).filter (wT t) := sel_filter _ _ _ fun j e' he hp => by
   have := hn (j + 1) e' (sX he) hp oM;rwa [show k + (j + 1) = k + 1 + j by omega] at this
  rw [this, sel_none r (k + 1) (fun _ _ _ => rfl)];rfl
 | e0 :: r, k, i + 1, e, h, hw, hL, hn => by
  have ih := fun τ => foldT_last (τ := τ) (L := L) r (k + 1) i e (sX h) hw (by rwa [show k + (i + 1) = k + 1 + i by omega] at hL) (fun j e' he hp hj => by
   have := hn (j + 1) e' (sX he) hp oM;rwa [show k + (j + 1) = k + 1 + j by omega] at this)
  simp only [sel];split
  ·exact ih _
  ·exact ih _
theorem foldH_last {H H' : Heap} {L : Nat → Bool} {x : Nat} : ∀ (E : List En) (k i : Nat) (e : En), E[i]? = some e → wH x e = true → L (k + i) = true → (∀ j e', E[j]? = some e' → wH x e' = true → i < j → L (k + j) = false) →
  foldH H (sel L E k) x = setH H' e x
 | [], _, _, _, h, _, _, _ => by simp at h
 | e0 :: r, k, 0, e, h, hw, hL, hn => by
  simp only [List.getElem?_cons_zero, Option.some.injEq] at h;subst h;rw [Nat.add_zero] at hL;simp only [sel, hL, if_true];show foldH (setH H e0) (sel L r (k + 1)) x = _;rw [foldH_filter x _ _ (setH H' e0) (setH_at hw)];have : (sel L r (k + 1)).filter (wH x) = (sel (fun _ => false) r (k + 1)).filter (wH x) := sel_filter _ _ _ fun j e' he hp => by
   have := hn (j + 1) e' (sX he) hp oM;rwa [show k + (j + 1) = k + 1 + j by omega] at this
  rw [this, sel_none r (k + 1) (fun _ _ _ => rfl)];rfl
 | e0 :: r, k, i + 1, e, h, hw, hL, hn => by
  have ih := fun H => foldH_last (H := H) (H' := H') (L := L) r (k + 1) i e (sX h) hw (by rwa [show k + (i + 1) = k + 1 + i by omega] at hL) (fun j e' he hp hj => by
   have := hn (j + 1) e' (sX he) hp oM;rwa [show k + (j + 1) = k + 1 + j by omega] at this)
  simp only [sel];split
  ·exact ih _
  ·exact ih _
def Dn (ops : List Oper) (L : Nat → Bool) : Prop := ∀ i o, ops[i]? = some o → L i = true → ∀ j ∈ direct o, L j = true
theorem closure_ok {all : List Oper} : ∀ (ops : List Oper) (acc : List (List Nat)), (∃ pre, all = pre ++ ops ∧ pre.length = acc.length) →
  (∀ k l, acc[k]? = some l → ∀ j ∈ l, ∀ L, Dn all L → L k = true → L j = true) →
  ∀ k l, (closure ops acc)[k]? = some l → ∀ j ∈ l, ∀ L, Dn all L → L k = true → L j = true
 | [], acc, _, h => h
 | o :: r, acc, ⟨pre, hp, hl⟩, h => by
  refine closure_ok r _ ⟨pre ++ [o], by rw [hp]; simp, by simp [hl]⟩ ?_;intro k l hk j hj L hd hL;by_cases hlt : k < acc.length
  ·rw [List.getElem?_append_left hlt] at hk;exact h k l hk j hj L hd hL
  ·rw [List.getElem?_append_right oM] at hk;have hk0 : k - acc.length = 0 := by
    by_cases h0 : k - acc.length = 0
    ·exact h0
    ·rw [List.getElem?_eq_none sO] at hk; cases hk
   rw [hk0] at hk;simp only [List.getElem?_cons_zero, Option.some.injEq] at hk;subst hk;have hko : all[k]? = some o := by rw [hp, List.getElem?_append_right oM, show k - pre.length = 0 by omega]; rfl
   have hj2 := (List.mem_filter.1 hj).2;rw [Bool.or_eq_true] at hj2;rcases hj2 with hj | hj
   ·exact hd k o hko hL j (sX hj)
   ·obtain ⟨j', hj', hjj⟩ := List.any_eq_true.1 hj;have hL' := hd k o hko hL j' hj';cases ha : acc[j']? with
    | none => simp [List.getD_eq_getElem?_getD, ha] at hjj
    | some l' =>
     rw [List.getD_eq_getElem?_getD, ha] at hjj;exact h j' l' ha j (sX hjj) L hd hL'
structure Al (f : Fo) (g : List Nat × List Nat) (e : En) : Prop where
 dst : e.dst = f.dst
 nd : e.nd = f.nd
 lk : ∀ x ∈ e.lk, x ∈ g.1
 ups : ∀ x ∈ e.ups.map (·.1), x ∈ g.2
 c0 : f.cls = 0 → e.lk = [] ∧ e.ups = []
 c1 : f.cls ≤ 1 → e.ups = []
theorem nomeet_ok {a b : List Nat} (h : nomeet a b = true) (ha : x ∈ a) (hb : x ∈ b) : False := by
 simp only [nomeet, List.all_eq_true] at h;have := h x ha;simp [hb] at this
theorem apartAll_ok {lg : Log} : ∀ {un : List (Nat × Nat)}, apartAll lg un = true → ∀ i j, (i, j) ∈ un → apartL (lg.getD i ([], [])) (lg.getD j ([], [])) = true
 | [], _, _, _, h => by cases h
 | (a, b) :: r, h, i, j, hm => by
  simp only [apartAll, Bool.and_eq_true] at h;rcases List.mem_cons.1 hm with e | hm
  ·cases e; exact h.1
  ·exact apartAll_ok h.2 i j hm
section
variable {P : Program} {N : Nat} {ops : Array Oper} {β : Blocks} {A : Nat → Prop} {w : World} {a : Act} {ro : Option Nat} {n : Nat} {Q : Exit → Act → World → Prop}
theorem any_ok {fs : List Fo} {lg : Log} {un : List (Nat × Nat)} (hlE : E.length = ops.size) (hlf : fs.length = ops.size) (hlg : lg.length = ops.size)
  (hdo : ∀ (i : Nat) o e, ops[i]? = some o → E[i]? = some e → Do P N ops o (foldT τ (E.take i)) (foldH H (E.take i)) e) (hal : ∀ (i : Nat) f g e, fs[i]? = some f → lg[i]? = some g → E[i]? = some e → Al f g e)
  (hsep : sepOK (closure ops.toList []) fs un = true) (hed : edgesOK ops.toList = true) (hap : apartAll lg un = true) {β0 : Blocks} {A0 : Nat → Prop} {w0 : World} {ds : List Deferred}
  (hk : ∀ a w β A, SatF N (foldT τ E) (foldH H E) a w β A → Stp β0 A0 w0 H β A w (foldH H E) → a.defers = ds → Q .normal a w) :
  ∀ (fuel : Nat) (listed : Array Bool) (a : Act) (w : World) (β : Blocks) (A : Nat → Prop), listed.size = ops.size → Dn ops.toList (fun i => listed.getD i false) → ((List.range ops.size).filter fun i => !listed.getD i false).length ≤ fuel →
   SatF N (foldT τ (sel (fun i => listed.getD i false) E 0)) (foldH H (sel (fun i => listed.getD i false) E 0)) a w β A → Stp β0 A0 w0 H β A w (foldH H (sel (fun i => listed.getD i false) E 0)) → a.defers = ds →
   wpAnyIn (FW ro) n P .any ops Q fuel listed a w := by
 have sep : ∀ (L : Nat → Bool), Dn ops.toList L → ∀ i j, i < j → j < ops.size → L i = false → L j = true → ∀ ei ej, E[i]? = some ei → E[j]? = some ej →
   (∀ d, ei.dst = some d → d ∉ ej.nd) ∧ (∀ d, ej.dst = some d → d ∉ ei.nd) ∧ (∀ d, ei.dst = some d → ej.dst ≠ some d) ∧ (∀ x ∈ ei.lk, x ∉ ej.ups.map (·.1)) ∧ (∀ x ∈ ei.ups.map (·.1), x ∉ ej.lk) ∧ (∀ x ∈ ei.ups.map (·.1), x ∉ ej.ups.map (·.1)) := by
  intro L hd i j hij hj hLi hLj ei ej hei hej;have hfi : fs[i]? = some (fs[i]'oM) := by simp [show i < fs.length by omega]
  have hfj : fs[j]? = some (fs[j]'oM) := by simp [show j < fs.length by omega]
  have hgi : lg[i]? = some (lg[i]'oM) := by simp [show i < lg.length by omega]
  have hgj : lg[j]? = some (lg[j]'oM) := by simp [show j < lg.length by omega]
  have ai := hal i _ _ ei hfi hgi hei;have aj := hal j _ _ ej hfj hgj hej;simp only [sepOK, List.all_eq_true, List.mem_range] at hsep;have h1 := hsep j oM i hij;rw [Bool.or_eq_true] at h1;rcases h1 with h1 | h1
  ·exfalso;have hmem : i ∈ (closure ops.toList []).getD j [] := sX h1
   cases hcl : (closure ops.toList [])[j]? with
   | none => simp [List.getD_eq_getElem?_getD, hcl] at hmem
   | some l =>
    rw [List.getD_eq_getElem?_getD, hcl] at hmem;have := closure_ok ops.toList [] ⟨[], rfl, rfl⟩ sP j l hcl i hmem L hd hLj;rw [hLi] at this;cases this
  ·simp only [sep2, List.getD_eq_getElem?_getD, hfi, hfj, Option.getD_some, Bool.and_eq_true, Bool.or_eq_true, decide_eq_true_eq, beq_iff_eq] at h1;obtain ⟨⟨⟨q1, q2⟩, q3⟩, q4⟩ := h1;refine ⟨?_, ?_, ?_, ?_⟩
   ·intro d hd'; rw [ai.dst] at hd'; rw [aj.nd]; rw [hd'] at q1; simpa using q1
   ·intro d hd'; rw [aj.dst] at hd'; rw [ai.nd]; rw [hd'] at q2; simpa using q2
   ·intro d hd' hd2; rw [ai.dst] at hd'; rw [aj.dst] at hd2; rw [hd', hd2] at q3; simp at q3
   ·have hun : apartL (lg[i]'oM) (lg[j]'oM) = true ∨ ei.lk = [] ∧ ei.ups = [] ∨ ej.lk = [] ∧ ej.ups = [] ∨ ei.ups = [] ∧ ej.ups = [] := by
     rcases q4 with ((q4 | q4) | q4) | q4
     ·exact .inr (.inl (ai.c0 q4))
     ·exact .inr (.inr (.inl (aj.c0 q4)))
     ·exact .inr (.inr (.inr ⟨ai.c1 q4.1, aj.c1 q4.2⟩))
     ·have := apartAll_ok hap i j (sX q4);simp only [List.getD_eq_getElem?_getD, hgi, hgj, Option.getD_some] at this;exact .inl this
    rcases hun with h | ⟨h, h'⟩ | ⟨h, h'⟩ | ⟨h, h'⟩
    ·simp only [apartL, Bool.and_eq_true] at h;obtain ⟨⟨r1, r2⟩, r3⟩ := h;exact ⟨fun x hx hy => nomeet_ok r3 (ai.lk x hx) (aj.ups x hy), fun x hx hy => nomeet_ok r1 (ai.ups x hx) (aj.lk x hy), fun x hx hy => nomeet_ok r2 (ai.ups x hx) (aj.ups x hy)⟩
    ·rw [h, h']; simp
    ·rw [h, h']; simp
    ·rw [h, h']; simp
 have step1 : ∀ (L : Nat → Bool), Dn ops.toList L → ∀ i ei, E[i]? = some ei → L i = false → (∀ o, ops[i]? = some o → ∀ j ∈ direct o, L j = true) →
   LeOn ei.nd (foldT τ (E.take i)) (foldT τ (sel L E 0)) ∧ (∀ x ∈ ei.lk, foldH H (E.take i) x = foldH H (sel L E 0) x) ∧
   (∀ j ej, E[j]? = some ej → i < j → L j = true → (∀ d, ei.dst = some d → ej.dst ≠ some d) ∧ ∀ x ∈ ei.ups.map (·.1), x ∉ ej.ups.map (·.1)) := by
  intro L hd i ei hei hLi hrd;have hiS : i < ops.size := by rw [← hlE]; exact (List.getElem?_eq_some_iff.1 hei).1
  have hd' : Dn ops.toList (fun j => if j = i then true else L j) := by
   intro k o hk hLk j hj;by_cases e : j = i
   ·simp [e]
   ·simp only [e, if_false];by_cases ek : k = i
    ·subst ek; exact hrd o (sX hk) j hj
    ·simp only [ek, if_false] at hLk; exact hd k o hk hLk j hj
  have before : ∀ (j : Nat) ej, E[j]? = some ej → j < i → L j = false → (∀ d, ej.dst = some d → d ∉ ei.nd) ∧ ∀ x ∈ ei.lk, x ∉ ej.ups.map (·.1) := by
   intro j ej hej hji hLj;obtain ⟨r1, r2, r3, r4, r5, r6⟩ := sep (fun j => if j = i then true else L j) hd' j i hji hiS (by simp [show j ≠ i by omega, hLj]) sP ej ei hej hei;exact ⟨r1, fun x hx hy => r5 x hy hx⟩
  have after : ∀ (j : Nat) ej, E[j]? = some ej → i < j → L j = true → (∀ d, ej.dst = some d → d ∉ ei.nd) ∧ (∀ x ∈ ei.lk, x ∉ ej.ups.map (·.1)) ∧ (∀ d, ei.dst = some d → ej.dst ≠ some d) ∧ ∀ x ∈ ei.ups.map (·.1), x ∉ ej.ups.map (·.1) := by
   intro j ej hej hij hLj;obtain ⟨r1, r2, r3, r4, r5, r6⟩ := sep L hd i j hij (by rw [← hlE]; exact (List.getElem?_eq_some_iff.1 hej).1) hLi hLj ei ej hei hej;exact ⟨r2, r4, r3, r6⟩
  have agree : ∀ (j : Nat) ej, E[j]? = some ej → ((∃ t ∈ ei.nd, ej.dst = some t) ∨ ∃ x ∈ ei.lk, x ∈ ej.ups.map (·.1)) → decide (j < i) = L j := by
   intro j ej hej hw;by_cases hji : j < i
   ·cases hLj : L j with
    | true => simp [hji]
    | false =>
     exfalso;obtain ⟨r1, r2⟩ := before j ej hej hji hLj
     rcases hw with ⟨t, h1, h2⟩ | ⟨x, h1, h2⟩
     ·exact r1 t h2 h1
     ·exact r2 x h1 h2
   ·by_cases hji' : j = i
    ·subst hji'; simp [hLi]
    ·cases hLj : L j with
     | false => simp [hji]
     | true =>
      exfalso;obtain ⟨r1, r2, _, _⟩ := after j ej hej oM hLj
      rcases hw with ⟨t, h1, h2⟩ | ⟨x, h1, h2⟩
      ·exact r1 t h2 h1
      ·exact r2 x h1 h2
  have htake : E.take i = sel (fun j => decide (j < i)) E 0 := by rw [sel_lt]; rfl
  refine ⟨?_, ?_, fun j ej hej hij hLj => (after j ej hej hij hLj).2.2⟩
  ·intro t ht v hv;rw [htake, foldT_sel (L' := L) (fun j ej hej hw => agree j ej hej (.inl ⟨t, ht, by simpa [wT] using hw⟩))] at hv;exact hv
  ·intro x hx;rw [htake];exact foldH_sel fun j ej hej hw => agree j ej hej (.inr ⟨x, hx, by simpa [wH] using hw⟩)
 have step2 : ∀ (L : Nat → Bool), Dn ops.toList L → ∀ i ei, E[i]? = some ei → L i = false → (∀ o, ops[i]? = some o → ∀ j ∈ direct o, L j = true) →
   setT (foldT τ (sel L E 0)) ei = foldT τ (sel (fun j => if j = i then true else L j) E 0) ∧ setH (foldH H (sel L E 0)) ei = foldH H (sel (fun j => if j = i then true else L j) E 0) := by
  intro L hd i ei hei hLi hrd;obtain ⟨_, _, hafter⟩ := step1 L hd i ei hei hLi hrd;refine ⟨?_, ?_⟩
  ·funext t;cases hw : wT t ei with
   | true =>
    rw [setT_at hw, foldT_last E 0 i ei hei hw sP];intro j ej hej hwj hij;simp only [Nat.zero_add, show j ≠ i by omega, if_false];cases hLj : L j with
    | false => rfl
    | true => exact ((hafter j ej hej hij hLj).1 t (by simpa [wT] using hw) (by simpa [wT] using hwj)).elim
   | false =>
    rw [setT_other hw];refine foldT_sel fun j ej hej hwj => ?_
    by_cases e : j = i
    ·subst e; rw [hei] at hej; cases hej; rw [hw] at hwj; cases hwj
    ·simp [e]
  ·funext x;cases hw : wH x ei with
   | true =>
    rw [foldH_last (H' := foldH H (sel L E 0)) E 0 i ei hei hw sP];intro j ej hej hwj hij;simp only [Nat.zero_add, show j ≠ i by omega, if_false];cases hLj : L j with
    | false => rfl
    | true => exact ((hafter j ej hej hij hLj).2 x (by simpa [wH] using hw) (by simpa [wH] using hwj)).elim
   | false =>
    rw [setH_other hw];refine foldH_sel fun j ej hej hwj => ?_
    by_cases e : j = i
    ·subst e; rw [hei] at hej; cases hej; rw [hw] at hwj; cases hwj
    ·simp [e]
 have full : ∀ (listed : Array Bool), (∀ i, i < ops.size → listed.getD i false = true) → sel (fun i => listed.getD i false) E 0 = E := by
  intro listed hall;have : ∀ (E' : List En) (k : Nat), k + E'.length = ops.size → sel (fun i => listed.getD i false) E' k = E' := by
   intro E'
   induction E' with
   | nil => intro k _; rfl
   | cons e r ih =>
    intro k hk;simp only [List.length_cons] at hk;simp only [sel, hall k oM, if_true];rw [ih (k + 1) oM]
  exact this E 0 oM
 have someone : ∀ (listed : Array Bool), listed.size = ops.size → Region.ready .any ops listed = [] → ∀ i, i < ops.size → listed.getD i false = true := by
  intro listed hsz hr i
  induction i using Nat.strongRecOn with
  | _ i ih =>
   intro hi;cases hL : listed.getD i false with
   | true => rfl
   | false =>
    exfalso;have hmem : i ∈ Region.ready .any ops listed := by
     refine mem_ready.2 ⟨?_, ops[i], by simp [hi], ?_⟩
     ·have : i < listed.size := oM;simpa [Array.getD_eq_getD_getElem?, this] using hL
     ·intro e he hb;have hdir : e.on ∈ direct ops[i] := List.mem_map.2 ⟨e, List.mem_filter.2 ⟨by simpa using he, hb⟩, rfl⟩;simp only [edgesOK, List.all_eq_true, List.mem_range, Array.length_toList] at hed;have h1 := hed i hi;simp only [Array.getElem?_toList, show ops[i]? = some ops[i] by simp [hi], List.all_eq_true, decide_eq_true_eq] at h1;have := h1 e.on hdir;exact ih e.on this oM
    rw [hr] at hmem;cases hmem
 intro fuel
 induction fuel with
 | zero =>
  intro listed a w β A hsz hd hcnt hs hst hdf;have hnil : Region.ready .any ops listed = [] := by
   apply List.eq_nil_iff_forall_not_mem.2;intro i hi;obtain ⟨h1, o, h2, _⟩ := mem_ready.1 hi;have hlt : i < ops.size := (Array.getElem?_eq_some_iff.1 h2).1;have : i ∈ (List.range ops.size).filter fun i => !listed.getD i false := by
    refine List.mem_filter.2 ⟨List.mem_range.2 hlt, ?_⟩;have : i < listed.size := oM;simp [Array.getD_eq_getD_getElem?, this] at h1 ⊢;exact h1
   have := List.length_pos_of_mem this;omega
  refine ⟨hnil, ?_⟩;have hfull := full listed (someone listed hsz hnil);rw [hfull] at hs hst;exact hk a w β A hs hst hdf
 | succ fuel ih =>
  intro listed a w β A hsz hd hcnt hs hst hdf;refine ⟨fun hnil => ?_, fun i hi => ?_⟩
  ·have hfull := full listed (someone listed hsz hnil);rw [hfull] at hs hst;exact hk a w β A hs hst hdf
  ·obtain ⟨h1, o, h2, h3⟩ := mem_ready.1 hi;have hlt : i < ops.size := (Array.getElem?_eq_some_iff.1 h2).1;have hil : i < listed.size := oM;have hLi : listed.getD i false = false := by simpa [Array.getD_eq_getD_getElem?, hil] using h1
   have hei : E[i]? = some (E[i]'oM) := by simp [show i < E.length by omega]
   have hrd : ∀ o', ops[i]? = some o' → ∀ j ∈ direct o', listed.getD j false = true := by
    intro o' ho' j hj;rw [h2] at ho';cases ho';obtain ⟨ed, he, rfl⟩ := List.mem_map.1 hj;obtain ⟨he1, he2⟩ := List.mem_filter.1 he;exact h3 ed (sX he1) he2
   obtain ⟨g1, g2, _⟩ := step1 _ hd i _ hei hLi hrd;obtain ⟨g3, g4⟩ := step2 _ hd i _ hei hLi hrd;have hset : ∀ j, (listed.setIfInBounds i true).getD j false = if j = i then true else listed.getD j false := by
    intro j;simp only [Array.getD_eq_getD_getElem?, Array.getElem?_setIfInBounds];by_cases e : i = j
    ·subst e; simp [hil]
    ·simp [e, Ne.symm e]
   have hfe : (fun j => (listed.setIfInBounds i true).getD j false) = fun j => if j = i then true else listed.getD j false := funext hset
   refine ((hdo i o _ h2 hei).le g1 g2).ok hs h2 ?_;intro a' w' β' A' hst' hs' hdf';rw [g3, g4] at hs';rw [g4] at hst';rw [← hfe] at hs' hst';refine ih _ a' w' β' A' (sX hsz) ?_ ?_ hs' (hst.trans hst') (hdf'.trans hdf)
   ·rw [hfe];intro k o' hk hLk j hj;by_cases e : j = i
    ·simp [e]
    ·simp only [e, if_false];by_cases ek : k = i
     ·subst ek; exact hrd o' (sX hk) j hj
     ·simp only [ek, if_false] at hLk; exact hd k o' hk hLk j hj
   ·have hlt2 : ((List.range ops.size).filter fun j => !(listed.setIfInBounds i true).getD j false).length < ((List.range ops.size).filter fun j => !listed.getD j false).length := by
     have hsub : ((List.range ops.size).filter fun j => !(listed.setIfInBounds i true).getD j false) = ((List.range ops.size).filter fun j => !listed.getD j false).filter fun j => decide (j ≠ i) := by
      rw [List.filter_filter];apply List.filter_congr;intro j _;rw [hset];by_cases e : j = i <;> simp [e]
     rw [hsub];refine List.length_filter_lt_length_iff_exists.2 ⟨i, List.mem_filter.2 ⟨List.mem_range.2 hlt, by simp [hLi]⟩, sP⟩
    omega
end
end Av
namespace Av
open Go
variable [Glb] [Rls]
variable {τ : Tmps}
theorem fl_length : ∀ (s : Ss) (g : List Nat), (fl g s).length = s.len
 | .nil, _ => rfl
 | .op _ _ r, g => by simp [fl, Ss.len, fl_length r g]
 | .call _ _ _ r, g => by simp [fl, Ss.len, fl_length r g]
 | .sc c _ body _ _ r, g => by simp [fl, Ss.len, fl_length r g, fl_length body [c]]
theorem step_ups {H : Heap} {d : Nat} {io : IOp} {r : Res} (h : step τ H d io = some r) : clsO io ≤ 1 → r.ups = [] := by
 intro hc;cases io <;> simp only [clsO] at hc <;> first | omega | skip
 all_goals
  simp only [step] at h
  first
   | (obtain ⟨v, _, rfl⟩ := Option.map_eq_some_iff.1 h; rfl)
   | (repeat' split at h) <;> first | (cases h; rfl) | (cases h; done)
theorem rd_pure {d : Nat} {io : IOp} (h : clsO io = 0) : rd τ d io = [] := by
 cases io <;> simp only [clsO] at h <;> first | rfl | omega
section
variable {P : Program} {N : Nat} {ops : Array Oper} {o : Oper}
inductive Chain (P : Program) (N : Nat) (ops : Array Oper) : List Nat → List Fo → Log → Tmps → Heap → List En → Tmps → Heap → Prop
 | nil (τ H) : Chain P N ops [] [] [] τ H [] τ H
 | cons (i o l f fs g lg τ H e E τ' H') (ho : ops[i]? = some o) (hd : Do P N ops o τ H e) (ha : Al f g e) (hc : Chain P N ops l fs lg (setT τ e) (setH H e) E τ' H') : Chain P N ops (i :: l) (f :: fs) (g :: lg) τ H (e :: E) τ' H'
theorem Chain.append {l1 l2 : List Nat} {f1 f2 : List Fo} {g1 g2 : Log} {τ1 τ2 : Tmps} {H H1 H2 : Heap} {E1 E2 : List En} (h1 : Chain P N ops l1 f1 g1 τ H E1 τ1 H1) (h2 : Chain P N ops l2 f2 g2 τ1 H1 E2 τ2 H2) :
  Chain P N ops (l1 ++ l2) (f1 ++ f2) (g1 ++ g2) τ H (E1 ++ E2) τ2 H2 := by
 induction h1 with
 | nil => exact h2
 | cons i o l f fs g lg τ H e E τ' H' ho hd ha hc ih => exact .cons _ _ _ _ _ _ _ _ _ _ _ _ _ ho hd ha (ih h2)
theorem trOne_cases {f : Ss → Ss} (h : trOne P N o = some f) : dstOk N o.dst = true ∧ ((∃ io, trOp P o = some io ∧ f = Ss.op o.dst io) ∨
  ∃ g args argTypes fc xs, o.op = .call { callee := .value g, args, argTypes } ∧ trCal P g = some fc ∧ allSome ((args.toList.zip argTypes.toList).map fun (x, t) => opd P t x) = some xs ∧ args.size = argTypes.size ∧ f = Ss.call o.dst fc xs) := by
 unfold trOne at h;split at h
 case isFalse => cases h
 rename_i hd;refine ⟨hd, ?_⟩;split at h
 ·rename_i g args argTypes ho;split at h
  ·rename_i fc xs hcal hxs;split at h
   ·rename_i hsz;cases h;exact .inr ⟨g, args, argTypes, fc, xs, ho, hcal, hxs, hsz, rfl⟩
   ·cases h
  ·cases h
 ·obtain ⟨io, hio, rfl⟩ := map_some_eq h;exact .inl ⟨io, hio, rfl⟩
theorem setT_get {e : En} {t : Nat} (h : t ∉ e.dst.toList) : setT τ e t = τ t := by
 refine setT_other ?_;cases hd : e.dst with
 | none => simp [wT, hd]
 | some d => simp [hd] at h; simp [wT, hd, Ne.symm h]
theorem skip_txt : ∀ (m : Nat) (j : Nat) (b : Bool) (asg l : List Nat) (s : Ss) (l' : List Nat) (τ : Tmps) (H : Heap) (c : Nat) (v : Av) (lg : Log), trSs P N ops m (some (j, b)) asg l = some (s, l') → (ops[j]?).bind (·.dst) = some c → c ∉ s.dsts →
  τ c = some v → notB b v → (∀ t ∈ asg, τ t = some .und) → lg.length = s.len →
  ∃ pre E τ', l = pre ++ l' ∧ Chain P N ops pre (fl [c] s) lg τ H E τ' H ∧ (∀ t, t ∉ s.dsts → τ' t = τ t) ∧ ∀ t ∈ s.dsts, τ' t = some .und
 | 0, j, b, asg, l, s, l', τ, H, c, v, lg, h, _, _, _, _, _, _ => by simp [trSs] at h
 | m + 1, j, b, asg, [], s, l', τ, H, c, v, lg, h, _, _, _, _, _, hl => by
  simp only [trSs, Option.some.injEq, Prod.mk.injEq] at h;obtain ⟨rfl, rfl⟩ := h;obtain rfl : lg = [] := by simpa [Ss.len] using hl
  exact ⟨[], [], τ, rfl, .nil _ _, fun _ _ => rfl, by simp [Ss.dsts]⟩
 | m + 1, j, b, asg, i :: l, s, l', τ, H, c, v, lg, h, hj, hcs, hcu, hub, hasg, hl => by
  unfold trSs at h;split at h
  ·cases h
  rename_i o ho;split at h
  ·rename_i hg;split at h
   case h_2 => cases h
   rename_i f hf;split at h
   case h_2 => cases h
   rename_i r l2 hr;simp only [Option.some.injEq, Prod.mk.injEq] at h;obtain ⟨rfl, rfl⟩ := h;have hdd := trOne_dsts hf r;rw [hdd] at hcs ⊢;have hcd : c ∉ o.dst.toList := fun h => hcs (List.mem_append_left _ h)
   obtain ⟨fo, hfl, hfd, hfn⟩ : ∃ fo : Fo, fl [c] (f r) = fo :: fl [c] r ∧ fo.dst = o.dst ∧ c ∈ fo.nd := by
    rcases (trOne_cases hf).2 with ⟨io, _, rfl⟩ | ⟨g, args, argTypes, fc, xs, _, _, _, _, rfl⟩
    ·exact ⟨_, rfl, rfl, sP⟩
    ·exact ⟨_, rfl, rfl, sP⟩
   have hlen : (f r).len = r.len + 1 := by
    have := congrArg List.length hfl;rw [fl_length] at this;simpa [fl_length] using this
   rw [hlen] at hl;cases lg with
   | nil => simp at hl
   | cons g0 lg =>
    have hasg' : ∀ t ∈ o.dst.toList ++ asg, setT τ ⟨o.dst, .und, [], [], fo.nd⟩ t = some .und := by
     intro t ht;by_cases htd : t ∈ o.dst.toList
     ·exact setT_at (e := ⟨o.dst, .und, [], [], fo.nd⟩) (by cases e : o.dst with | none => simp [e] at htd | some d => simp [e] at htd; simp [wT, htd])
     ·rw [setT_get htd]; exact hasg t ((List.mem_append.1 ht).resolve_left htd)
    obtain ⟨pre, E, τ', h1, h2, h3, h4⟩ := skip_txt m j b (o.dst.toList ++ asg) l r _ (setT τ ⟨o.dst, .und, [], [], fo.nd⟩) H c v lg hr hj (fun h => hcs (List.mem_append_right _ h)) (by rw [setT_get hcd]; exact hcu) hub hasg' (sX hl);refine ⟨i :: pre, (⟨o.dst, .und, [], [], fo.nd⟩ : En) :: E, τ', by rw [h1]; rfl, ?_, ?_, ?_⟩
    ·rw [hfl];exact .cons i o pre fo _ g0 lg τ H ⟨o.dst, .und, [], [], fo.nd⟩ E τ' H ho (.skip j b c v fo.nd hg hj (trOne_cases hf).1 hcu hub hfn) ⟨hfd.symm, rfl, sP, sP, fun _ => ⟨rfl, rfl⟩, fun _ => rfl⟩ h2
    ·intro t ht;rw [h3 t (fun h => ht (List.mem_append_right _ h)), setT_get (fun h => ht (List.mem_append_left _ h))]
    ·intro t ht;by_cases hr' : t ∈ r.dsts
     ·exact h4 t hr'
     ·rw [h3 t hr'];exact hasg' t (List.mem_append_left _ ((List.mem_append.1 ht).resolve_right hr'))
  ·rename_i hg;split at h
   ·simp only [Option.some.injEq, Prod.mk.injEq] at h;obtain ⟨rfl, rfl⟩ := h;obtain rfl : lg = [] := by simpa [Ss.len] using hl
    exact ⟨[], [], τ, rfl, .nil _ _, fun _ _ => rfl, by simp [Ss.dsts]⟩
   ·rename_i j2 b2 hg2;split at h
    ·cases h
    rename_i c2 hc2;split at h
    case isFalse =>
     simp only [Option.some.injEq, Prod.mk.injEq] at h;obtain ⟨rfl, rfl⟩ := h;obtain rfl : lg = [] := by simpa [Ss.len] using hl
     exact ⟨[], [], τ, rfl, .nil _ _, fun _ _ => rfl, by simp [Ss.dsts]⟩
    rename_i hin;have hin' : c2 ∈ asg := sX hin;split at h
    case h_2 => cases h
    rename_i body i' l2 hb;split at h
    case h_2 => cases h
    rename_i pk hpk;split at h
    case h_2 => cases h
    rename_i c' x y d hop hdst;split at h
    case h_2 => cases h
    rename_i z hz;split at h
    case isFalse => cases h
    rename_i hcond;obtain ⟨k1, rfl, k3, k4, k5⟩ := hcond;split at h
    case h_2 => cases h
    rename_i r l3 hr;simp only [Option.some.injEq, Prod.mk.injEq] at h;obtain ⟨rfl, rfl⟩ := h;simp only [Ss.dsts, List.mem_append, List.mem_cons, not_or] at hcs ⊢;obtain ⟨q1, q2, q3⟩ := hcs;simp only [Ss.len] at hl;obtain ⟨lb, lr, hlg, hlb⟩ : ∃ lb lr, lg = lb ++ lr ∧ lb.length = body.len := ⟨lg.take body.len, lg.drop body.len, (List.take_append_drop _ _).symm, sO⟩;subst hlg;rw [List.length_append, hlb] at hl;cases lr with
    | nil => simp at hl
    | cons g0 lr =>
     obtain ⟨p1, E1, τ1, h1, h2, h3, h4⟩ := skip_txt m j2 b2 [] (i :: l) body _ τ H c' .und lb hb hc2 (sX k4) (hasg c' hin') (.inl rfl) sP hlb;have hcu1 : τ1 c = some v := by rw [h3 c q1]; exact hcu
     let e0 : En := ⟨pk.dst, .und, [], [], c' :: (tO z ++ [c])⟩
     have hasg' : ∀ t ∈ d :: (body.dsts ++ asg), setT τ1 e0 t = some .und := by
      intro t ht;by_cases e : t = d
      ·subst e; exact setT_at (e := e0) (by simp [wT, e0, hdst])
      ·rw [setT_get (e := e0) (by simpa [e0, hdst] using e)];by_cases hbt : t ∈ body.dsts
       ·exact h4 t hbt
       ·rw [h3 t hbt];simp only [List.mem_cons, List.mem_append] at ht;rcases ht with h | h | h
        ·exact absurd h e
        ·exact absurd h hbt
        ·exact hasg t h
     obtain ⟨p2, E2, τ2, g1, g2, g3, g4⟩ := skip_txt m j b (d :: (body.dsts ++ asg)) l2 r _ (setT τ1 e0) H c v lr hr hj q3 (by rw [setT_get (e := e0) (by simpa [e0, hdst] using q2)]; exact hcu1) hub hasg' (by simp at hl; omega);refine ⟨p1 ++ i' :: p2, E1 ++ e0 :: E2, τ2, by rw [h1, g1]; simp, ?_, ?_, ?_⟩
     ·refine h2.append ?_;refine .cons i' pk p2 _ _ g0 lr τ1 H e0 E2 τ2 H hpk (.skip j b c v _ k1 hj (by rw [hdst]; simp [dstOk, k3]) hcu1 hub sP) ⟨hdst, rfl, by simp [e0], by simp [e0], fun _ => ⟨rfl, rfl⟩, fun _ => rfl⟩ g2
     ·rintro t ⟨t1, t2, t3⟩;rw [g3 t t3, setT_get (e := e0) (by simpa [e0, hdst] using t2), h3 t t1]
     ·intro t ht;by_cases e1 : t ∈ r.dsts
      ·exact g4 t e1
      ·rw [g3 t e1];exact hasg' t (by
        simp only [List.mem_cons, List.mem_append];rcases ht with h | h | h
        ·exact .inr (.inl h)
        ·exact .inl h
        ·exact absurd h e1)
 termination_by m => m
theorem txt_ok : ∀ (m : Nat) (g : Option (Nat × Bool)) (asg l : List Nat) (s : Ss) (l' : List Nat) (K : St → Log → Prop) (st : St) (lg0 : Log) (τ : Tmps), trSs P N ops m g asg l = some (s, l') →
  (∀ j b, g = some (j, b) → ∃ c, (ops[j]?).bind (·.dst) = some c ∧ c ∉ s.dsts ∧ τ c = some (.d (.bool b))) → wpsL P s K st lg0 → (∀ t v, get st.tm t = some v → τ t = some v) →
  ∃ pre E lg τ' st', l = pre ++ l' ∧ Chain P N ops pre (fl (gT ops g) s) lg τ (get st.hp) E τ' (get st'.hp) ∧ K st' (lg0 ++ lg) ∧ (∀ t v, get st'.tm t = some v → τ' t = some v) ∧ ∀ t, t ∉ s.dsts → τ' t = τ t
 | 0, g, asg, l, s, l', K, st, lg0, τ, h, _, _, _ => by simp [trSs] at h
 | m + 1, g, asg, [], s, l', K, st, lg0, τ, h, _, hw, hle => by
  simp only [trSs, Option.some.injEq, Prod.mk.injEq] at h;obtain ⟨rfl, rfl⟩ := h;exact ⟨[], [], [], τ, st, rfl, .nil _ _, by simpa [wpsL] using hw, hle, fun _ _ => rfl⟩
 | m + 1, g, asg, i :: l, s, l', K, st, lg0, τ, h, hgo, hw, hle => by
  have gon : ∀ τ1 : Tmps, (∀ t, t ∉ s.dsts → τ1 t = τ t) → GdOn ops τ1 g := by
   intro τ1 hfr;cases g with
   | none => trivial
   | some p =>
    obtain ⟨j, b⟩ := p;obtain ⟨c, h1, h2, h3⟩ := hgo j b rfl;exact ⟨c, h1, by rw [hfr c h2]; exact h3⟩
  unfold trSs at h;split at h
  ·cases h
  rename_i o ho;split at h
  ·rename_i hg;split at h
   case h_2 => cases h
   rename_i f hf;split at h
   case h_2 => cases h
   rename_i r l2 hr;simp only [Option.some.injEq, Prod.mk.injEq] at h;obtain ⟨rfl, rfl⟩ := h;have hdd := trOne_dsts hf r;have rest : ∀ (fo : Fo) (g0 : List Nat × List Nat) (e : En) (st1 : St), fl (gT ops g) (f r) = fo :: fl (gT ops g) r → Do P N ops o τ (get st.hp) e → Al fo g0 e → e.dst = o.dst → wpsL P r K st1 (lg0 ++ [g0]) → get st1.hp = setH (get st.hp) e →
     (∀ t v, get st1.tm t = some v → setT τ e t = some v) →
     ∃ pre E lg τ' st', i :: l = pre ++ l2 ∧ Chain P N ops pre (fl (gT ops g) (f r)) lg τ (get st.hp) E τ' (get st'.hp) ∧ K st' (lg0 ++ lg) ∧ (∀ t v, get st'.tm t = some v → τ' t = some v) ∧ ∀ t, t ∉ (f r).dsts → τ' t = τ t := by
    intro fo g0 e st1 hfl hdo hal hed hw1 hh hle1;obtain ⟨pre, E, lg, τ', st', h1, h2, h3, h4, h5⟩ := txt_ok m g _ l r _ K st1 (lg0 ++ [g0]) (setT τ e) hr (by
     intro j b hjb;obtain ⟨c, q1, q2, q3⟩ := hgo j b hjb;rw [hdd] at q2;exact ⟨c, q1, fun h => q2 (List.mem_append_right _ h), by rw [setT_get (by rw [hed]; exact fun h => q2 (List.mem_append_left _ h))]; exact q3⟩) hw1 hle1
    refine ⟨i :: pre, e :: E, g0 :: lg, τ', st', by rw [h1]; rfl, ?_, by simpa using h3, h4, ?_⟩
    ·rw [hfl];refine .cons i o pre fo _ g0 lg τ _ e E τ' _ ho hdo hal ?_;rw [← hh];exact h2
    ·intro t ht;rw [hdd] at ht;rw [h5 t (fun h => ht (List.mem_append_right _ h)), setT_get (by rw [hed]; exact fun h => ht (List.mem_append_left _ h))]
   have put_le : ∀ (d : Option Nat) (v : Av) (ups : List (Nat × Obj)) (lk nd : List Nat) (t : Nat) (u : Av), get (st.app d v ups).tm t = some u → setT τ ⟨d, v, ups, lk, nd⟩ t = some u := by
    intro d v ups lk nd t u ht;cases d with
    | none => exact hle t u ht
    | some d =>
     simp only [St.app, get_put] at ht;simp only [setT, upd];split at ht
     ·rename_i e; rw [if_pos e]; exact ht
     ·rename_i e; rw [if_neg e]; exact hle t u ht
   obtain ⟨hdok, ⟨io, hio, rfl⟩ | ⟨g', args, argTypes, fc, xs, hop, hcal, hxs, hsz, rfl⟩⟩ := trOne_cases hf
   ·simp only [wpsL] at hw;split at hw
    case h_2 => exact hw.elim
    rename_i x hx;obtain ⟨hc, hw⟩ := hw;obtain ⟨s1, s2⟩ := step_le (τ' := τ) (H' := get st.hp) hx (fun t _ v hv => hle t v hv) (fun _ _ => rfl);refine rest _ _ ⟨o.dst, x.v, x.ups, rd τ (o.dst.getD 0) io, tI io ++ gT ops g⟩ _ rfl
     (.op io x _ (by rw [hg]; exact gon τ (fun _ _ => rfl)) (by rw [hg]; intro t ht; exact List.mem_append_right _ ht) hio hdok (fun t ht => List.mem_append_left _ ht) s1 hc)
     ⟨rfl, rfl, by rw [s2]; exact fun _ h => h, fun _ h => h, fun h0 => ⟨rd_pure h0, step_ups s1 (by dsimp only at h0; omega)⟩, fun h1 => step_ups s1 h1⟩ rfl hw (get_puts _ _) (put_le _ _ _ _ _)
   ·simp only [wpsL] at hw;split at hw
    case h_2 => exact hw.elim
    rename_i f' vs htg;obtain ⟨T, v, ups, hp1, hcok, hT, hp1e, hw⟩ := hw;refine rest _ _ ⟨o.dst, v, ups, T.map (·.1), calT fc ++ (xs.flatMap tO ++ gT ops g)⟩ _ rfl
     (.call fc xs g' args argTypes f' vs T v ups _ (by rw [hg]; exact gon τ (fun _ _ => rfl)) (by rw [hg]; intro t ht; simp [ht]) hop hcal hxs hsz hdok (fun t ht => by simp [ht]) (fun x hx t ht => by subst hx; simp [calT, ht])
      (target_le (nd := xs.flatMap tO ++ calT fc) htg (fun t ht => List.mem_append_left _ ht) (fun x hx t ht => by subst hx; exact List.mem_append_right _ ht) (fun t _ v hv => hle t v hv)) hcok hT)
     ⟨rfl, rfl, fun _ h => h, fun _ h => h, (fun h0 => by cases h0), (fun h1 => by dsimp only at h1; omega)⟩ rfl hw (funext hp1e) (put_le _ _ _ _ _)
  ·rename_i hg;split at h
   ·simp only [Option.some.injEq, Prod.mk.injEq] at h;obtain ⟨rfl, rfl⟩ := h;exact ⟨[], [], [], τ, st, rfl, .nil _ _, by simpa [wpsL] using hw, hle, fun _ _ => rfl⟩
   ·rename_i j2 b2 hg2;split at h
    ·cases h
    rename_i c2 hc2;split at h
    case isFalse =>
     simp only [Option.some.injEq, Prod.mk.injEq] at h;obtain ⟨rfl, rfl⟩ := h;exact ⟨[], [], [], τ, st, rfl, .nil _ _, by simpa [wpsL] using hw, hle, fun _ _ => rfl⟩
    split at h
    case h_2 => cases h
    rename_i body i' l2 hb;split at h
    case h_2 => cases h
    rename_i pk hpk;split at h
    case h_2 => cases h
    rename_i c' x y d hop hdst;split at h
    case h_2 => cases h
    rename_i z hz;split at h
    case isFalse => cases h
    rename_i hcond;obtain ⟨k1, rfl, k3, k4, k5⟩ := hcond;split at h
    case h_2 => cases h
    rename_i r l3 hr;simp only [Option.some.injEq, Prod.mk.injEq] at h;obtain ⟨rfl, rfl⟩ := h;simp only [wpsL] at hw;split at hw
    case h_2 => exact hw.elim
    rename_i xv hxv;obtain ⟨yv, hp1, lb, hlb, hbody, hskip, hrest⟩ := hw;have hcx := hle c' _ hxv;have hcb : c' ∉ body.dsts := sX k4;have hgt : gT ops (some (j2, b2)) = [c'] := by simp [gT, hc2]
    have fin : ∀ (p1 : List Nat) (E1 : List En) (τ1 : Tmps) (z' : Opd) (v : Bool), i :: l = p1 ++ i' :: l2 → Chain P N ops p1 (fl [c'] body) lb τ (get st.hp) E1 τ1 (get hp1) → (∀ t, t ∉ body.dsts → τ1 t = τ t) →
      opd P 0 (if xv then x else y) = some z' → val τ1 z' = some (.d (.bool v)) → (∀ t ∈ tO z', t ∈ tO z) → v = (if b2 then xv && yv else xv || yv) →
      ∃ pre E lg τ' st', i :: l = pre ++ l3 ∧ Chain P N ops pre (fl (gT ops g) (.sc c' b2 body z d r)) lg τ (get st.hp) E τ' (get st'.hp) ∧ K st' (lg0 ++ lg) ∧ (∀ t v, get st'.tm t = some v → τ' t = some v) ∧ ∀ t, t ∉ (Ss.sc c' b2 body z d r).dsts → τ' t = τ t := by
     intro p1 E1 τ1 z' v h1 hch hfr hz' hv' hzz hvv;subst hvv
     let e0 : En := ⟨some d, .d (.bool (if b2 then xv && yv else xv || yv)), [], [], c' :: (tO z ++ gT ops g)⟩
     have hdo : Do P N ops pk τ1 (get hp1) e0 := .pick c' x y z' d xv _ _ (by rw [k1]; exact gon τ1 (fun t ht => hfr t (fun h => ht (by simp [Ss.dsts, h])))) (by rw [k1]; intro t ht; simp [ht]) hop hdst k3 (by rw [hfr c' hcb]; exact hcx) hz' hv' sP (fun t ht => by simp [hzz t ht]);obtain ⟨p2, E2, lg2, τ2, st', g1, g2, g3, g4, g5⟩ := txt_ok m g _ l2 r _ K ⟨put (drops st.tm body.dsts) d (.d (.bool (if b2 then xv && yv else xv || yv))), hp1⟩ (lg0 ++ (lb ++ [([], [])])) (setT τ1 e0) hr (by
      intro j b hjb;obtain ⟨c, q1, q2, q3⟩ := hgo j b hjb;simp only [Ss.dsts, List.mem_append, List.mem_cons, not_or] at q2;exact ⟨c, q1, q2.2.2, by rw [setT_get (e := e0) (by simpa [e0] using q2.2.1), hfr c q2.1]; exact q3⟩) hrest (by
      intro t v ht;simp only [get_put] at ht;by_cases e : t = d
      ·rw [if_pos e] at ht;subst e;rw [setT_at (e := e0) (by simp [wT, e0])];exact ht
      ·rw [if_neg e, get_drops] at ht;split at ht
       ·cases ht
       ·rename_i hnb;rw [setT_get (e := e0) (by simpa [e0] using e), hfr t (sX hnb)];exact hle t v ht)
     refine ⟨p1 ++ i' :: p2, E1 ++ e0 :: E2, lb ++ ([], []) :: lg2, τ2, st', by rw [h1, g1]; simp, ?_, by simpa using g3, g4, ?_⟩
     ·refine hch.append ?_;exact .cons i' pk p2 _ _ _ lg2 τ1 _ e0 E2 τ2 _ hpk hdo ⟨rfl, rfl, by simp [e0], by simp [e0], fun _ => ⟨rfl, rfl⟩, fun _ => rfl⟩ g2
     ·intro t ht;simp only [Ss.dsts, List.mem_append, List.mem_cons, not_or] at ht;rw [g5 t ht.2.2, setT_get (e := e0) (by simpa [e0] using ht.2.1), hfr t ht.1]
    by_cases hxb : xv = b2
    ·obtain ⟨p1, E1, lg1, τ1, st1, h1, h2, ⟨h3, h3', h3''⟩, h4, h5⟩ := txt_ok m (some (j2, b2)) [] (i :: l) body _ _ st [] τ hb (by
      intro j b hjb;cases hjb;exact ⟨c', hc2, hcb, by rw [← hxb]; exact hcx⟩) (hbody hxb) hle
     rw [hgt, h3'] at h2;rw [List.nil_append] at h3'';rw [h3''] at h2;refine fin p1 E1 τ1 z yv h1 h2 h5 (by rw [hxb]; exact hz) (val_le (fun t _ v hv => h4 t v hv) h3) (fun _ h => h) ?_;subst hxb;cases xv <;> simp
    ·obtain ⟨p1, E1, τ1, h1, h2, h3, h4⟩ := skip_txt m j2 b2 [] (i :: l) body _ τ (get st.hp) c' (.d (.bool xv)) lb hb hc2 hcb hcx (.inr ⟨xv, rfl, hxb⟩) sP hlb;have e1 := hskip hxb;subst e1;unfold pickOk at k5;split at k5
     ·have : xv = false := by cases xv <;> simp_all
      subst this;exact fin p1 E1 τ1 (.k (.bool false)) false h1 h2 h3 rfl rfl (by simp [tO]) sP
     ·have : xv = true := by cases xv <;> simp_all
      subst this;exact fin p1 E1 τ1 (.k (.bool true)) true h1 h2 h3 rfl rfl (by simp [tO]) sP
     ·cases k5
 termination_by m => m
end
end Av
