/- Part C of a proof. -/
import Derived.Test.YtiekiedlkehccaaGreatDoorMiB
import Derived.Test.YtiekiedlkehccaaGreatDoorMiA
set_option linter.unusedVariables false
set_option linter.unusedSimpArgs false
set_option linter.unusedSectionVars false
set_option linter.constructorNameAsVariable false
set_option linter.unnecessarySimpa false
set_option maxRecDepth 10000
namespace Av
open Go
variable [Glb] [Rls]
variable {τ : Tmps}
theorem fl_length : ∀ (s : Ss) (g : List Nat), (fl g s).length = s.len
 | .nil, _ => rfl
 | .op _ _ r, g => by simp [fl, Ss.len, fl_length r g]
 | .call _ _ _ r, g => by simp [fl, Ss.len, fl_length r g]
 | .sc c _ body _ _ r, g => by simp [fl, Ss.len, fl_length r g, fl_length body [c]]
theorem step_ups {H : Heap} {d : Nat} {io : IOp} {r : Res} (h : step τ H d io = some r) : clsO io ≤ 1 → r.ups = [] := by
 intro hc;cases io <;> simp only [clsO] at hc <;> first | omega | skip
 all_goals
  simp only [step] at h
  first
   | (obtain ⟨v, _, rfl⟩ := Option.map_eq_some_iff.1 h; rfl)
   | (repeat' split at h) <;> first | (cases h; rfl) | (cases h; done)
theorem rd_pure {d : Nat} {io : IOp} (h : clsO io = 0) : rd τ d io = [] := by
 cases io <;> simp only [clsO] at h <;> first | rfl | omega
section
variable {P : Program} {N : Nat} {ops : Array Oper} {o : Oper}
inductive Chain (P : Program) (N : Nat) (ops : Array Oper) : List Nat → List Fo → Log → Tmps → Heap → List En → Tmps → Heap → Prop
 | nil (τ H) : Chain P N ops [] [] [] τ H [] τ H
 | cons (i o l f fs g lg τ H e E τ' H') (ho : ops[i]? = some o) (hd : Do P N ops o τ H e) (ha : Al f g e) (hc : Chain P N ops l fs lg (setT τ e) (setH H e) E τ' H') : Chain P N ops (i :: l) (f :: fs) (g :: lg) τ H (e :: E) τ' H'
theorem Chain.append {l1 l2 : List Nat} {f1 f2 : List Fo} {g1 g2 : Log} {τ1 τ2 : Tmps} {H H1 H2 : Heap} {E1 E2 : List En} (h1 : Chain P N ops l1 f1 g1 τ H E1 τ1 H1) (h2 : Chain P N ops l2 f2 g2 τ1 H1 E2 τ2 H2) :
  Chain P N ops (l1 ++ l2) (f1 ++ f2) (g1 ++ g2) τ H (E1 ++ E2) τ2 H2 := by
 induction h1 with
 | nil => exact h2
 | cons i o l f fs g lg τ H e E τ' H' ho hd ha hc ih => exact .cons _ _ _ _ _ _ _ _ _ _ _ _ _ ho hd ha (ih h2)
theorem trOne_cases {f : Ss → Ss} (h : trOne P N o = some f) : dstOk N o.dst = true ∧ ((∃ io, trOp P o = some io ∧ f = Ss.op o.dst io) ∨
  ∃ g args argTypes fc xs, o.op = .call { callee := .value g, args, argTypes } ∧ trCal P g = some fc ∧ allSome ((args.toList.zip argTypes.toList).map fun (x, t) => opd P t x) = some xs ∧ args.size = argTypes.size ∧ f = Ss.call o.dst fc xs) := by
 unfold trOne at h;split at h
 case isFalse => cases h
 rename_i hd;refine ⟨hd, ?_⟩;split at h
 ·rename_i g args argTypes ho;split at h
  ·rename_i fc xs hcal hxs;split at h
   ·rename_i hsz;cases h;exact .inr ⟨g, args, argTypes, fc, xs, ho, hcal, hxs, hsz, rfl⟩
   ·cases h
  ·cases h
 ·obtain ⟨io, hio, rfl⟩ := map_some_eq h;exact .inl ⟨io, hio, rfl⟩
theorem setT_get {e : En} {t : Nat} (h : t ∉ e.dst.toList) : setT τ e t = τ t := by
 refine setT_other ?_;cases hd : e.dst with
 | none => simp [wT, hd]
 | some d => simp [hd] at h; simp [wT, hd, Ne.symm h]
theorem skip_txt : ∀ (m : Nat) (j : Nat) (b : Bool) (asg l : List Nat) (s : Ss) (l' : List Nat) (τ : Tmps) (H : Heap) (c : Nat) (v : Av) (lg : Log), trSs P N ops m (some (j, b)) asg l = some (s, l') → (ops[j]?).bind (·.dst) = some c → c ∉ s.dsts →
  τ c = some v → notB b v → (∀ t ∈ asg, τ t = some .und) → lg.length = s.len →
  ∃ pre E τ', l = pre ++ l' ∧ Chain P N ops pre (fl [c] s) lg τ H E τ' H ∧ (∀ t, t ∉ s.dsts → τ' t = τ t) ∧ ∀ t ∈ s.dsts, τ' t = some .und
 | 0, j, b, asg, l, s, l', τ, H, c, v, lg, h, _, _, _, _, _, _ => by simp [trSs] at h
 | m + 1, j, b, asg, [], s, l', τ, H, c, v, lg, h, _, _, _, _, _, hl => by
  simp only [trSs, Option.some.injEq, Prod.mk.injEq] at h;obtain ⟨rfl, rfl⟩ := h;obtain rfl : lg = [] := by simpa [Ss.len] using hl
  exact ⟨[], [], τ, rfl, .nil _ _, fun _ _ => rfl, by simp [Ss.dsts]⟩
 | m + 1, j, b, asg, i :: l, s, l', τ, H, c, v, lg, h, hj, hcs, hcu, hub, hasg, hl => by
  unfold trSs at h;split at h
  ·cases h
  rename_i o ho;split at h
  ·rename_i hg;split at h
   case h_2 => cases h
   rename_i f hf;split at h
   case h_2 => cases h
   rename_i r l2 hr;simp only [Option.some.injEq, Prod.mk.injEq] at h;obtain ⟨rfl, rfl⟩ := h;have hdd := trOne_dsts hf r;rw [hdd] at hcs ⊢;have hcd : c ∉ o.dst.toList := fun h => hcs (List.mem_append_left _ h)
   obtain ⟨fo, hfl, hfd, hfn⟩ : ∃ fo : Fo, fl [c] (f r) = fo :: fl [c] r ∧ fo.dst = o.dst ∧ c ∈ fo.nd := by
    rcases (trOne_cases hf).2 with ⟨io, _, rfl⟩ | ⟨g, args, argTypes, fc, xs, _, _, _, _, rfl⟩
    ·exact ⟨_, rfl, rfl, sP⟩
    ·exact ⟨_, rfl, rfl, sP⟩
   have hlen : (f r).len = r.len + 1 := by
    have := congrArg List.length hfl;rw [fl_length] at this;simpa [fl_length] using this
   rw [hlen] at hl;cases lg with
   | nil => simp at hl
   | cons g0 lg =>
    have hasg' : ∀ t ∈ o.dst.toList ++ asg, setT τ ⟨o.dst, .und, [], [], fo.nd⟩ t = some .und := by
     intro t ht;by_cases htd : t ∈ o.dst.toList
     ·exact setT_at (e := ⟨o.dst, .und, [], [], fo.nd⟩) (by cases e : o.dst with | none => simp [e] at htd | some d => simp [e] at htd; simp [wT, htd])
     ·rw [setT_get htd]; exact hasg t ((List.mem_append.1 ht).resolve_left htd)
    obtain ⟨pre, E, τ', h1, h2, h3, h4⟩ := skip_txt m j b (o.dst.toList ++ asg) l r _ (setT τ ⟨o.dst, .und, [], [], fo.nd⟩) H c v lg hr hj (fun h => hcs (List.mem_append_right _ h)) (by rw [setT_get hcd]; exact hcu) hub hasg' (sX hl);refine ⟨i :: pre, (⟨o.dst, .und, [], [], fo.nd⟩ : En) :: E, τ', by rw [h1]; rfl, ?_, ?_, ?_⟩
    ·rw [hfl];exact .cons i o pre fo _ g0 lg τ H ⟨o.dst, .und, [], [], fo.nd⟩ E τ' H ho (.skip j b c v fo.nd hg hj (trOne_cases hf).1 hcu hub hfn) ⟨hfd.symm, rfl, sP, sP, fun _ => ⟨rfl, rfl⟩, fun _ => rfl⟩ h2
    ·intro t ht;rw [h3 t (fun h => ht (List.mem_append_right _ h)), setT_get (fun h => ht (List.mem_append_left _ h))]
    ·intro t ht;by_cases hr' : t ∈ r.dsts
     ·exact h4 t hr'
     ·rw [h3 t hr'];exact hasg' t (List.mem_append_left _ ((List.mem_append.1 ht).resolve_right hr'))
  ·rename_i hg;split at h
   ·simp only [Option.some.injEq, Prod.mk.injEq] at h;obtain ⟨rfl, rfl⟩ := h;obtain rfl : lg = [] := by simpa [Ss.len] using hl
    exact ⟨[], [], τ, rfl, .nil _ _, fun _ _ => rfl, by simp [Ss.dsts]⟩
   ·rename_i j2 b2 hg2;split at h
    ·cases h
    rename_i c2 hc2;split at h
    case isFalse =>
     simp only [Option.some.injEq, Prod.mk.injEq] at h;obtain ⟨rfl, rfl⟩ := h;obtain rfl : lg = [] := by simpa [Ss.len] using hl
     exact ⟨[], [], τ, rfl, .nil _ _, fun _ _ => rfl, by simp [Ss.dsts]⟩
    rename_i hin;have hin' : c2 ∈ asg := sX hin;split at h
    case h_2 => cases h
    rename_i body i' l2 hb;split at h
    case h_2 => cases h
    rename_i pk hpk;split at h
    case h_2 => cases h
    rename_i c' x y d hop hdst;split at h
    case h_2 => cases h
    rename_i z hz;split at h
    case isFalse => cases h
    rename_i hcond;obtain ⟨k1, rfl, k3, k4, k5⟩ := hcond;split at h
    case h_2 => cases h
    rename_i r l3 hr;simp only [Option.some.injEq, Prod.mk.injEq] at h;obtain ⟨rfl, rfl⟩ := h;simp only [Ss.dsts, List.mem_append, List.mem_cons, not_or] at hcs ⊢;obtain ⟨q1, q2, q3⟩ := hcs;simp only [Ss.len] at hl;obtain ⟨lb, lr, hlg, hlb⟩ : ∃ lb lr, lg = lb ++ lr ∧ lb.length = body.len := ⟨lg.take body.len, lg.drop body.len, (List.take_append_drop _ _).symm, sO⟩;subst hlg;rw [List.length_append, hlb] at hl;cases lr with
    | nil => simp at hl
    | cons g0 lr =>
     obtain ⟨p1, E1, τ1, h1, h2, h3, h4⟩ := skip_txt m j2 b2 [] (i :: l) body _ τ H c' .und lb hb hc2 (sX k4) (hasg c' hin') (.inl rfl) sP hlb;have hcu1 : τ1 c = some v := by rw [h3 c q1]; exact hcu
     let e0 : En := ⟨pk.dst, .und, [], [], c' :: (tO z ++ [c])⟩
     have hasg' : ∀ t ∈ d :: (body.dsts ++ asg), setT τ1 e0 t = some .und := by
      intro t ht;by_cases e : t = d
      ·subst e; exact setT_at (e := e0) (by simp [wT, e0, hdst])
      ·rw [setT_get (e := e0) (by simpa [e0, hdst] using e)];by_cases hbt : t ∈ body.dsts
       ·exact h4 t hbt
       ·rw [h3 t hbt];simp only [List.mem_cons, List.mem_append] at ht;rcases ht with h | h | h
        ·exact absurd h e
        ·exact absurd h hbt
        ·exact hasg t h
     obtain ⟨p2, E2, τ2, g1, g2, g3, g4⟩ := skip_txt m j b (d :: (body.dsts ++ asg)) l2 r _ (setT τ1 e0) H c v lr hr hj q3 (by rw [setT_get (e := e0) (by simpa [e0, hdst] using q2)]; exact hcu1) hub hasg' (by simp at hl; omega);refine ⟨p1 ++ i' :: p2, E1 ++ e0 :: E2, τ2, by rw [h1, g1]; simp, ?_, ?_, ?_⟩
     ·refine h2.append ?_;refine .cons i' pk p2 _ _ g0 lr τ1 H e0 E2 τ2 H hpk (.skip j b c v _ k1 hj (by rw [hdst]; simp [dstOk, k3]) hcu1 hub sP) ⟨hdst, rfl, by simp [e0], by simp [e0], fun _ => ⟨rfl, rfl⟩, fun _ => rfl⟩ g2
     ·rintro t ⟨t1, t2, t3⟩;rw [g3 t t3, setT_get (e := e0) (by simpa [e0, hdst] using t2), h3 t t1]
     ·intro t ht;by_cases e1 : t ∈ r.dsts
      ·exact g4 t e1
      ·rw [g3 t e1];exact hasg' t (by
        simp only [List.mem_cons, List.mem_append];rcases ht with h | h | h
        ·exact .inr (.inl h)
        ·exact .inl h
        ·exact absurd h e1)
 termination_by m => m
theorem txt_ok : ∀ (m : Nat) (g : Option (Nat × Bool)) (asg l : List Nat) (s : Ss) (l' : List Nat) (K : St → Log → Prop) (st : St) (lg0 : Log) (τ : Tmps), trSs P N ops m g asg l = some (s, l') →
  (∀ j b, g = some (j, b) → ∃ c, (ops[j]?).bind (·.dst) = some c ∧ c ∉ s.dsts ∧ τ c = some (.d (.bool b))) → wpsL P s K st lg0 → (∀ t v, get st.tm t = some v → τ t = some v) →
  ∃ pre E lg τ' st', l = pre ++ l' ∧ Chain P N ops pre (fl (gT ops g) s) lg τ (get st.hp) E τ' (get st'.hp) ∧ K st' (lg0 ++ lg) ∧ (∀ t v, get st'.tm t = some v → τ' t = some v) ∧ ∀ t, t ∉ s.dsts → τ' t = τ t
 | 0, g, asg, l, s, l', K, st, lg0, τ, h, _, _, _ => by simp [trSs] at h
 | m + 1, g, asg, [], s, l', K, st, lg0, τ, h, _, hw, hle => by
  simp only [trSs, Option.some.injEq, Prod.mk.injEq] at h;obtain ⟨rfl, rfl⟩ := h;exact ⟨[], [], [], τ, st, rfl, .nil _ _, by simpa [wpsL] using hw, hle, fun _ _ => rfl⟩
 | m + 1, g, asg, i :: l, s, l', K, st, lg0, τ, h, hgo, hw, hle => by
  have gon : ∀ τ1 : Tmps, (∀ t, t ∉ s.dsts → τ1 t = τ t) → GdOn ops τ1 g := by
   intro τ1 hfr;cases g with
   | none => trivial
   | some p =>
    obtain ⟨j, b⟩ := p;obtain ⟨c, h1, h2, h3⟩ := hgo j b rfl;exact ⟨c, h1, by rw [hfr c h2]; exact h3⟩
  unfold trSs at h;split at h
  ·cases h
  rename_i o ho;split at h
  ·rename_i hg;split at h
   case h_2 => cases h
   rename_i f hf;split at h
   case h_2 => cases h
   rename_i r l2 hr;simp only [Option.some.injEq, Prod.mk.injEq] at h;obtain ⟨rfl, rfl⟩ := h;have hdd := trOne_dsts hf r;have rest : ∀ (fo : Fo) (g0 : List Nat × List Nat) (e : En) (st1 : St), fl (gT ops g) (f r) = fo :: fl (gT ops g) r → Do P N ops o τ (get st.hp) e → Al fo g0 e → e.dst = o.dst → wpsL P r K st1 (lg0 ++ [g0]) → get st1.hp = setH (get st.hp) e →
     (∀ t v, get st1.tm t = some v → setT τ e t = some v) →
     ∃ pre E lg τ' st', i :: l = pre ++ l2 ∧ Chain P N ops pre (fl (gT ops g) (f r)) lg τ (get st.hp) E τ' (get st'.hp) ∧ K st' (lg0 ++ lg) ∧ (∀ t v, get st'.tm t = some v → τ' t = some v) ∧ ∀ t, t ∉ (f r).dsts → τ' t = τ t := by
    intro fo g0 e st1 hfl hdo hal hed hw1 hh hle1;obtain ⟨pre, E, lg, τ', st', h1, h2, h3, h4, h5⟩ := txt_ok m g _ l r _ K st1 (lg0 ++ [g0]) (setT τ e) hr (by
     intro j b hjb;obtain ⟨c, q1, q2, q3⟩ := hgo j b hjb;rw [hdd] at q2;exact ⟨c, q1, fun h => q2 (List.mem_append_right _ h), by rw [setT_get (by rw [hed]; exact fun h => q2 (List.mem_append_left _ h))]; exact q3⟩) hw1 hle1
    refine ⟨i :: pre, e :: E, g0 :: lg, τ', st', by rw [h1]; rfl, ?_, by simpa using h3, h4, ?_⟩
    ·rw [hfl];refine .cons i o pre fo _ g0 lg τ _ e E τ' _ ho hdo hal ?_;rw [← hh];exact h2
    ·intro t ht;rw [hdd] at ht;rw [h5 t (fun h => ht (List.mem_append_right _ h)), setT_get (by rw [hed]; exact fun h => ht (List.mem_append_left _ h))]
   have put_le : ∀ (d : Option Nat) (v : Av) (ups : List (Nat × Obj)) (lk nd : List Nat) (t : Nat) (u : Av), get (st.app d v ups).tm t = some u → setT τ ⟨d, v, ups, lk, nd⟩ t = some u := by
    intro d v ups lk nd t u ht;cases d with
    | none => exact hle t u ht
    | some d =>
     simp only [St.app, get_put] at ht;simp only [setT, upd];split at ht
     ·rename_i e; rw [if_pos e]; exact ht
     ·rename_i e; rw [if_neg e]; exact hle t u ht
   obtain ⟨hdok, ⟨io, hio, rfl⟩ | ⟨g', args, argTypes, fc, xs, hop, hcal, hxs, hsz, rfl⟩⟩ := trOne_cases hf
   ·simp only [wpsL] at hw;split at hw
    case h_2 => exact hw.elim
    rename_i x hx;obtain ⟨hc, hw⟩ := hw;obtain ⟨s1, s2⟩ := step_le (τ' := τ) (H' := get st.hp) hx (fun t _ v hv => hle t v hv) (fun _ _ => rfl);refine rest _ _ ⟨o.dst, x.v, x.ups, rd τ (o.dst.getD 0) io, tI io ++ gT ops g⟩ _ rfl
     (.op io x _ (by rw [hg]; exact gon τ (fun _ _ => rfl)) (by rw [hg]; intro t ht; exact List.mem_append_right _ ht) hio hdok (fun t ht => List.mem_append_left _ ht) s1 hc)
     ⟨rfl, rfl, by rw [s2]; exact fun _ h => h, fun _ h => h, fun h0 => ⟨rd_pure h0, step_ups s1 (by dsimp only at h0; omega)⟩, fun h1 => step_ups s1 h1⟩ rfl hw (get_puts _ _) (put_le _ _ _ _ _)
   ·simp only [wpsL] at hw;split at hw
    case h_2 => exact hw.elim
    rename_i f' vs htg;obtain ⟨T, v, ups, hp1, hcok, hT, hp1e, hw⟩ := hw;refine rest _ _ ⟨o.dst, v, ups, T.map (·.1), calT fc ++ (xs.flatMap tO ++ gT ops g)⟩ _ rfl
     (.call fc xs g' args argTypes f' vs T v ups _ (by rw [hg]; exact gon τ (fun _ _ => rfl)) (by rw [hg]; intro t ht; simp [ht]) hop hcal hxs hsz hdok (fun t ht => by simp [ht]) (fun x hx t ht => by subst hx; simp [calT, ht])
      (target_le (nd := xs.flatMap tO ++ calT fc) htg (fun t ht => List.mem_append_left _ ht) (fun x hx t ht => by subst hx; exact List.mem_append_right _ ht) (fun t _ v hv => hle t v hv)) hcok hT)
     ⟨rfl, rfl, fun _ h => h, fun _ h => h, (fun h0 => by cases h0), (fun h1 => by dsimp only at h1; omega)⟩ rfl hw (funext hp1e) (put_le _ _ _ _ _)
  ·rename_i hg;split at h
   ·simp only [Option.some.injEq, Prod.mk.injEq] at h;obtain ⟨rfl, rfl⟩ := h;exact ⟨[], [], [], τ, st, rfl, .nil _ _, by simpa [wpsL] using hw, hle, fun _ _ => rfl⟩
   ·rename_i j2 b2 hg2;split at h
    ·cases h
    rename_i c2 hc2;split at h
    case isFalse =>
     simp only [Option.some.injEq, Prod.mk.injEq] at h;obtain ⟨rfl, rfl⟩ := h;exact ⟨[], [], [], τ, st, rfl, .nil _ _, by simpa [wpsL] using hw, hle, fun _ _ => rfl⟩
    split at h
    case h_2 => cases h
    rename_i body i' l2 hb;split at h
    case h_2 => cases h
    rename_i pk hpk;split at h
    case h_2 => cases h
    rename_i c' x y d hop hdst;split at h
    case h_2 => cases h
    rename_i z hz;split at h
    case isFalse => cases h
    rename_i hcond;obtain ⟨k1, rfl, k3, k4, k5⟩ := hcond;split at h
    case h_2 => cases h
    rename_i r l3 hr;simp only [Option.some.injEq, Prod.mk.injEq] at h;obtain ⟨rfl, rfl⟩ := h;simp only [wpsL] at hw;split at hw
    case h_2 => exact hw.elim
    rename_i xv hxv;obtain ⟨yv, hp1, lb, hlb, hbody, hskip, hrest⟩ := hw;have hcx := hle c' _ hxv;have hcb : c' ∉ body.dsts := sX k4;have hgt : gT ops (some (j2, b2)) = [c'] := by simp [gT, hc2]
    have fin : ∀ (p1 : List Nat) (E1 : List En) (τ1 : Tmps) (z' : Opd) (v : Bool), i :: l = p1 ++ i' :: l2 → Chain P N ops p1 (fl [c'] body) lb τ (get st.hp) E1 τ1 (get hp1) → (∀ t, t ∉ body.dsts → τ1 t = τ t) →
      opd P 0 (if xv then x else y) = some z' → val τ1 z' = some (.d (.bool v)) → (∀ t ∈ tO z', t ∈ tO z) → v = (if b2 then xv && yv else xv || yv) →
      ∃ pre E lg τ' st', i :: l = pre ++ l3 ∧ Chain P N ops pre (fl (gT ops g) (.sc c' b2 body z d r)) lg τ (get st.hp) E τ' (get st'.hp) ∧ K st' (lg0 ++ lg) ∧ (∀ t v, get st'.tm t = some v → τ' t = some v) ∧ ∀ t, t ∉ (Ss.sc c' b2 body z d r).dsts → τ' t = τ t := by
     intro p1 E1 τ1 z' v h1 hch hfr hz' hv' hzz hvv;subst hvv
     let e0 : En := ⟨some d, .d (.bool (if b2 then xv && yv else xv || yv)), [], [], c' :: (tO z ++ gT ops g)⟩
     have hdo : Do P N ops pk τ1 (get hp1) e0 := .pick c' x y z' d xv _ _ (by rw [k1]; exact gon τ1 (fun t ht => hfr t (fun h => ht (by simp [Ss.dsts, h])))) (by rw [k1]; intro t ht; simp [ht]) hop hdst k3 (by rw [hfr c' hcb]; exact hcx) hz' hv' sP (fun t ht => by simp [hzz t ht]);obtain ⟨p2, E2, lg2, τ2, st', g1, g2, g3, g4, g5⟩ := txt_ok m g _ l2 r _ K ⟨put (drops st.tm body.dsts) d (.d (.bool (if b2 then xv && yv else xv || yv))), hp1⟩ (lg0 ++ (lb ++ [([], [])])) (setT τ1 e0) hr (by
      intro j b hjb;obtain ⟨c, q1, q2, q3⟩ := hgo j b hjb;simp only [Ss.dsts, List.mem_append, List.mem_cons, not_or] at q2;exact ⟨c, q1, q2.2.2, by rw [setT_get (e := e0) (by simpa [e0] using q2.2.1), hfr c q2.1]; exact q3⟩) hrest (by
      intro t v ht;simp only [get_put] at ht;by_cases e : t = d
      ·rw [if_pos e] at ht;subst e;rw [setT_at (e := e0) (by simp [wT, e0])];exact ht
      ·rw [if_neg e, get_drops] at ht;split at ht
       ·cases ht
       ·rename_i hnb;rw [setT_get (e := e0) (by simpa [e0] using e), hfr t (sX hnb)];exact hle t v ht)
     refine ⟨p1 ++ i' :: p2, E1 ++ e0 :: E2, lb ++ ([], []) :: lg2, τ2, st', by rw [h1, g1]; simp, ?_, by simpa using g3, g4, ?_⟩
     ·refine hch.append ?_;exact .cons i' pk p2 _ _ _ lg2 τ1 _ e0 E2 τ2 _ hpk hdo ⟨rfl, rfl, by simp [e0], by simp [e0], fun _ => ⟨rfl, rfl⟩, fun _ => rfl⟩ g2
     ·intro t ht;simp only [Ss.dsts, List.mem_append, List.mem_cons, not_or] at ht;rw [g5 t ht.2.2, setT_get (e := e0) (by simpa [e0] using ht.2.1), hfr t ht.1]
    by_cases hxb : xv = b2
    ·obtain ⟨p1, E1, lg1, τ1, st1, h1, h2, ⟨h3, h3', h3''⟩, h4, h5⟩ := txt_ok m (some (j2, b2)) [] (i :: l) body _ _ st [] τ hb (by
      intro j b hjb;cases hjb;exact ⟨c', hc2, hcb, by rw [← hxb]; exact hcx⟩) (hbody hxb) hle
     rw [hgt, h3'] at h2;rw [List.nil_append] at h3'';rw [h3''] at h2;refine fin p1 E1 τ1 z yv h1 h2 h5 (by rw [hxb]; exact hz) (val_le (fun t _ v hv => h4 t v hv) h3) (fun _ h => h) ?_;subst hxb;cases xv <;> simp
    ·obtain ⟨p1, E1, τ1, h1, h2, h3, h4⟩ := skip_txt m j2 b2 [] (i :: l) body _ τ (get st.hp) c' (.d (.bool xv)) lb hb hc2 hcb hcx (.inr ⟨xv, rfl, hxb⟩) sP hlb;have e1 := hskip hxb;subst e1;unfold pickOk at k5;split at k5
     ·have : xv = false := by cases xv <;> simp_all
      subst this;exact fin p1 E1 τ1 (.k (.bool false)) false h1 h2 h3 rfl rfl (by simp [tO]) sP
     ·have : xv = true := by cases xv <;> simp_all
      subst this;exact fin p1 E1 τ1 (.k (.bool true)) true h1 h2 h3 rfl rfl (by simp [tO]) sP
     ·cases k5
 termination_by m => m
end
end Av
