/- Part C of a proof. -/
import Derived.Test.YtokdogomolegnaaGreatDoorZB
import Derived.RangeFuncRecord
set_option linter.unusedVariables false
set_option linter.unusedSimpArgs false
set_option linter.unusedSectionVars false
set_option linter.constructorNameAsVariable false
set_option linter.unnecessarySimpa false
set_option maxRecDepth 10000
namespace Av
open Go
variable [Glb] [Rls]

section
variable {α : Type}
theorem get_put (l : List (Nat × α)) (i : Nat) (v : α) (j : Nat) : get (put l i v) j = if j = i then some v else get l j := by
  induction l with
  | nil => by_cases h : i = j <;> simp [put, get, h, eq_comm]
  | cons e r ih =>
    obtain ⟨k, u⟩ := e
    simp only [put]
    by_cases h : k = i
    · subst h
      rw [if_pos rfl]
      by_cases h2 : k = j
      · simp [get, h2]
      · simp [get, h2, Ne.symm h2]
    · rw [if_neg h]
      simp only [get, ih]
      by_cases h2 : k = j
      · subst h2; simp [h]
      · simp [h2]

theorem get_drops (l : List (Nat × α)) (ks : List Nat) (j : Nat) : get (drops l ks) j = if ks.contains j then none else get l j := by
  induction l with
  | nil => simp [drops, get]
  | cons e r ih =>
    obtain ⟨k, u⟩ := e
    simp only [drops]
    split
    · rename_i h
      rw [ih]
      simp only [get]
      split
      · rfl
      · split
        · subst_vars; simp_all
        · rfl
    · simp only [get, ih]
      split
      · subst_vars; simp_all
      · rfl

theorem get_puts : ∀ (ups : List (Nat × Obj)) (l : List (Nat × Obj)), get (puts l ups) = hputs (get l) ups
  | [], l => rfl
  | (i, v) :: r, l => by
    simp only [puts, hputs]
    rw [get_puts r]
    congr 1
    funext j
    rw [get_put]
    rfl
end

structure SatB (N : Nat) (st : St) (a : Act) (w : World) (β : Blocks) (A : Nat → Prop) : Prop where
  core : Core β A w (get st.hp)
  tmps : TRep β A w (get st.hp) (get st.tm) a
  size : a.tmps.size = N

section
variable {P : Program} {N : Nat} {β : Blocks} {A : Nat → Prop} {w : World} {a : Act} {o : Oper} {ro : Option Nat} {n : Nat} {st : St}

/-- no fence, in any round -/
abbrev FW (ro : Option Nat) : Fence := { Fence.wide with round := ro }

theorem callsIn_FW {ro : Option Nat} {n : Nat} {f : Nat} {args : Array Value} {w : World} {R : Ending → World → Prop} (h : Calls P f args w R) : CallsIn (FW ro) n P f args w R :=
  callsIn_wide.2 h

theorem round_FW {ro : Option Nat} {n : Nat} {l f : Nat} {tmps : Array Value} {asg body : Code} {w : World} {R : Ending → World → Prop} (h : RoundIn Fence.wide 0 P l f tmps asg body w R) :
    RoundIn (FW ro) n P l f tmps asg body w R := ⟨trivial, fun c cs _ => h.2 c cs (room_wide _)⟩

theorem put_get (a : Act) (dst : Option Nat) (u : Value) (t : Nat) (h : t ∉ dst.toList) : (a.put dst u).tmps[t]? = a.tmps[t]? := by
  cases dst with
  | none => rfl
  | some d =>
    simp only [Option.toList_some, List.mem_singleton] at h
    simp only [Act.put, Array.getElem?_setIfInBounds]
    rw [if_neg (fun e => h e.symm)]

theorem put_at (a : Act) (d : Nat) (u : Value) (h : d < a.tmps.size) : (a.put (some d) u).tmps[d]? = some u := by
  simp [Act.put, h]

theorem put_size (a : Act) (dst : Option Nat) (u : Value) : (a.put dst u).tmps.size = a.tmps.size := by
  cases dst <;> simp [Act.put]

theorem put_defers (a : Act) (dst : Option Nat) (u : Value) : (a.put dst u).defers = a.defers := by
  cases dst <;> rfl

/-- a result is put where it belongs -/
theorem SatB.app {dst : Option Nat} {v : Av} {u : Value} {ups : List (Nat × Obj)} {β' : Blocks} {A' : Nat → Prop} {w' : World} (hs : SatB N st a w β A) (hd : dstOk N dst = true)
    (st1 : Stp β A w (get st.hp) β' A' w' (hputs (get st.hp) ups)) (hv : VRep β' A' w' (hputs (get st.hp) ups) v u) : SatB N (st.app dst v ups) (a.put dst u) w' β' A' := by
  have hh : get (st.app dst v ups).hp = hputs (get st.hp) ups := get_puts ups st.hp
  refine ⟨by rw [hh]; exact st1.core, ?_, by rw [put_size]; exact hs.size⟩
  rw [hh]
  intro t c hc
  cases dst with
  | none =>
    obtain ⟨u', h1, h2⟩ := hs.tmps t c hc
    exact ⟨u', h1, st1.vals _ _ h2⟩
  | some d =>
    simp only [St.app, get_put] at hc
    split at hc
    · rename_i e
      cases hc
      subst e
      exact ⟨u, put_at a _ u (by simp only [dstOk, decide_eq_true_eq] at hd; rw [hs.size]; exact hd), hv⟩
    · rename_i e
      obtain ⟨u', h1, h2⟩ := hs.tmps t c hc
      exact ⟨u', by rw [put_get _ _ _ _ (by simpa using e)]; exact h1, st1.vals _ _ h2⟩

theorem trOp_defer {io : IOp} (h : trOp P o = some io) : ∀ c, o.op ≠ .defer c := by
  intro c hc
  simp [trOp, hc] at h

theorem vals_list {τ : Tmps} : ∀ {xs : List Opd} {vs : List Av}, vals τ xs = some vs → vs.length = xs.length ∧ ∀ (i : Nat) x, xs[i]? = some x → ∃ v, vs[i]? = some v ∧ val τ x = some v
  | [], vs, h => by simp only [vals, Option.some.injEq] at h; subst h; simp
  | x :: xs, vs, h => by
    simp only [vals] at h
    cases e1 : val τ x with
    | none => simp [e1] at h
    | some v =>
      simp only [e1] at h
      cases e2 : vals τ xs with
      | none => simp [e2] at h
      | some us =>
        simp only [e2, Option.some.injEq] at h
        subst h
        obtain ⟨h1, h2⟩ := vals_list e2
        refine ⟨by simp [h1], fun i y hy => ?_⟩
        cases i with
        | zero => simp at hy; subst hy; exact ⟨v, rfl, e1⟩
        | succ i => exact h2 i y (by simpa using hy)

theorem callFunc_run {f : Nat} (h : Has P f) (args : Array Value) (w : World) : (callFunc f args).run P w = .ok (.enter f args) w := by
  obtain ⟨fn, h1, h2, h3⟩ := h
  have h2' : fn.body ≠ none := by intro hb; simp [hb] at h2
  have h3' : fn.name ≠ "runtime.NumGoroutine" := by simpa using h3
  simp [callFunc, h1, h2', h3']

/-- a call -/
theorem call_run {H : Heap} {τ : Tmps} {g : Operand} {args : Array Operand} {argTypes : Array TypeId} {fc : Cal} {xs : List Opd} {f' : Cee} {vs : List Av} {T : List (Nat × Option Obj)} {v : Av} {ups : List (Nat × Obj)}
    {next : Act → World → Prop} {Q : Exit → Act → World → Prop} (hc : Core β A w H) (ht : TRep β A w H τ a) (ho : o.op = .call { callee := .value g, args, argTypes }) (hcal : trCal P g = some fc)
    (hxs : allSome ((args.toList.zip argTypes.toList).map fun (x, t) => opd P t x) = some xs) (hsz : args.size = argTypes.size) (htg : target τ fc xs = some (f', vs)) (hcok : CallOK P f' vs T v ups) (hT : tgets H T)
    (hk : ∀ u w' β' A', Stp β A w H β' A' w' (hputs H ups) → VRep β' A' w' (hputs H ups) v u → next (a.put o.dst u) w') : o.wpIn (FW ro) n P a w next Q := by
  refine ⟨fun f _ => trivial, ?_⟩
  rw [Oper.semAt_eq ro a.eval o (by intro c hc; rw [ho] at hc; cases hc)]
  have hcore := hc
  have hT' : ∀ e ∈ T, H e.1 = e.2 := by
    clear hcok hk
    induction T with
    | nil => simp
    | cons e T ih => intro e' he'; rcases List.mem_cons.1 he' with rfl | h; exact hT.1; exact ih hT.2 e' h
  -- the arguments
  obtain ⟨g1, g2⟩ := allSome_get hxs
  have hargs : ∀ us, vals (τ) xs = some us → us.length = (args.map a.eval).size ∧ ∀ (i : Nat) c v, us[i]? = some c → (args.map a.eval)[i]? = some v → VRep β A w (H) c v := by
    intro us hus
    obtain ⟨q1, q2⟩ := vals_list hus
    have hl : (args.toList.zip argTypes.toList).length = args.size := by simp [hsz]
    refine ⟨by rw [q1, ← g1, hl, Array.size_map], fun i c v hc hv => ?_⟩
    rw [Array.getElem?_map] at hv
    cases hx : args[i]? with
    | none => simp [hx] at hv
    | some x =>
      simp only [hx, Option.map_some, Option.some.injEq] at hv
      subst hv
      have hi : i < args.size := (Array.getElem?_eq_some_iff.1 hx).1
      have hz : (args.toList.zip argTypes.toList)[i]? = some (x, argTypes[i]'(by omega)) := by
        rw [List.getElem?_zip_eq_some]
        exact ⟨by simpa using hx, by simp⟩
      obtain ⟨y, h1, h2⟩ := g2 i _ hz
      obtain ⟨c', h3, h4⟩ := q2 i y h1
      rw [hc] at h3
      cases h3
      exact opd_ok h2 h4 ht
  have key : ∀ (us : Array Value) (k : Nat), f' = .fn k → VReps β A w (H) vs us → (execOp a.eval o).run P w = (callFunc k us).run P w → o.uponIn (FW ro) n P a next Q ((execOp a.eval o).run P w) := by
    intro us k hk' hus hrun
    subst hk'
    rw [hrun]
    rcases hcok β A w (H) us hT' hc hus with ⟨hhas, hcall⟩ | ⟨u, w', hres, β', A', st1, hv⟩
    · rw [callFunc_run hhas]
      refine ⟨(fun h => by cases h), callsIn_FW (hcall.mono ?_)⟩
      rintro e w' ⟨u, rfl, β', A', st1, hv⟩
      exact hk u w' β' A' st1 hv
    · rw [hres]
      exact hk u w' β' A' st1 hv
  have hrun0 : (execOp a.eval o).run P w = ((Deferred.ofValue (a.eval g) (args.map a.eval)).run P w).andThen fun d w' => (invoke d.target d.args).run P w' := by
    simp [execOp, ho, resolve, Sem.run_bind]
  unfold target at htg
  cases ev : vals (τ) xs with
  | none => simp [ev] at htg
  | some us =>
    obtain ⟨al, ar⟩ := hargs us ev
    simp only [ev] at htg
    unfold targetV at htg
    have clo : ∀ (k : Nat) (fs cs : List Av) (a1 a2 : Array Value), f' = .fn k → a.eval g = .func (.func k) a1 a2 → vs = fs ++ us ++ cs → fs.length = a1.size → cs.length = a2.size →
        (∀ (i : Nat) c v, fs[i]? = some c → a1[i]? = some v → VRep β A w (H) c v) → (∀ (i : Nat) c v, cs[i]? = some c → a2[i]? = some v → VRep β A w (H) c v) →
        o.uponIn (FW ro) n P a next Q ((execOp a.eval o).run P w) := by
      intro k fs cs a1 a2 hk' hg hvs l1 l2 r1 r2
      refine key (a1 ++ args.map a.eval ++ a2) k hk' ⟨by rw [hvs]; simp [l1, l2] at al ⊢; omega, ?_⟩ ?_
      · subst hvs
        intro i c v hc hv
        rw [← Array.getElem?_toList, Array.toList_append, Array.toList_append] at hv
        by_cases h1 : i < fs.length
        · rw [List.append_assoc, List.getElem?_append_left h1] at hc
          rw [List.append_assoc, List.getElem?_append_left (by simp; omega)] at hv
          exact r1 i c v hc (by simpa using hv)
        · by_cases h2 : i < fs.length + us.length
          · rw [List.append_assoc, List.getElem?_append_right (by omega), List.getElem?_append_left (by omega)] at hc
            rw [List.append_assoc, List.getElem?_append_right (by simp; omega), List.getElem?_append_left (by simp at al ⊢; omega)] at hv
            refine ar _ c v hc ?_
            rw [← hv, Array.getElem?_toList, l1]
            rfl
          · rw [List.getElem?_append_right (by simp; omega)] at hc
            rw [List.getElem?_append_right (by simp at al ⊢; omega)] at hv
            refine r2 _ c v hc ?_
            rw [← hv, Array.getElem?_toList]
            congr 1
            simp at al ⊢
            omega
      · rw [hrun0, hg]
        simp only [Deferred.ofValue, Sem.run_pure, Result.andThen_ok, invoke]
    cases fc with
    | fn k =>
      simp only [Option.some.injEq, Prod.mk.injEq] at htg
      obtain ⟨rfl, rfl⟩ := htg
      have hg : a.eval g = .func (.func k) #[] #[] := by
        unfold trCal at hcal
        split at hcal
        · simp only [Option.some.injEq, Cal.fn.injEq] at hcal; subst hcal; rfl
        · obtain ⟨y, hy, hyy⟩ := map_some_eq hcal; cases hyy
      exact clo k [] [] #[] #[] rfl hg (by simp) rfl rfl (by simp) (by simp)
    | dyn x =>
      have hx : opd P 0 g = some x := by
        unfold trCal at hcal
        split at hcal
        · cases hcal
        · obtain ⟨y, hy, hyy⟩ := map_some_eq hcal; cases hyy; exact hy
      simp only at htg
      cases ex : val (τ) x with
      | none => simp [ex] at htg
      | some c =>
        have hc := opd_ok hx ex ht
        simp only [ex] at htg
        split at htg
        · rename_i k fs cs hcc
          simp only [Option.some.injEq, Prod.mk.injEq] at htg hcc
          obtain ⟨rfl, rfl⟩ := htg
          subst hcc
          have hr := hc.of_d
          generalize hgu : a.eval g = u at *
          cases hr with
          | fn _ _ _ a1 a2 l1 l2 r1 r2 =>
            refine clo k (fs.map .d) (cs.map .d) a1 a2 rfl rfl rfl (by simpa using l1) (by simpa using l2) ?_ ?_
            · intro i c v h1 h2
              rw [List.getElem?_map] at h1
              cases e1 : fs[i]? with
              | none => simp [e1] at h1
              | some y => simp only [e1, Option.map_some, Option.some.injEq] at h1; subst h1; exact .d _ _ (r1 i y v e1 h2)
            · intro i c v h1 h2
              rw [List.getElem?_map] at h1
              cases e1 : cs[i]? with
              | none => simp [e1] at h1
              | some y => simp only [e1, Option.map_some, Option.some.injEq] at h1; subst h1; exact .d _ _ (r2 i y v e1 h2)
        · rename_i k fs cs hcc
          simp only [Option.some.injEq, Prod.mk.injEq] at htg hcc
          obtain ⟨rfl, rfl⟩ := htg
          subst hcc
          generalize hgu : a.eval g = u at *
          cases hc with
          | clo _ _ _ a1 a2 l1 l2 r1 r2 => exact clo k fs cs a1 a2 rfl rfl rfl l1 l2 r1 r2
        · rename_i i hcc
          simp only [Option.some.injEq, Prod.mk.injEq] at htg hcc
          obtain ⟨rfl, rfl⟩ := htg
          subst hcc
          have hus : VReps β A w H (.mp i :: us) (#[a.eval g] ++ args.map a.eval) := by
            refine ⟨by simp at al ⊢; omega, ?_⟩
            intro j c v h1 h2
            cases j with
            | zero =>
              simp only [List.getElem?_cons_zero, Option.some.injEq] at h1
              have h2' : a.eval g = v := by rw [Array.getElem?_append_left (by simp)] at h2; simpa using h2
              rw [← h1, ← h2']; exact hc
            | succ j =>
              refine ar j c v (by simpa using h1) ?_
              rw [Array.getElem?_append_right (by simp)] at h2
              simpa using h2
          obtain ⟨l, rest, e1, fn, tmps, asg, body, e2, e3⟩ := hcok β A w H _ hT' hcore hus
          have e1' := congrArg Array.toList e1
          simp only [Array.toList_append, List.cons_append, List.nil_append, List.cons.injEq, Array.toList_inj] at e1'
          obtain ⟨eg, er⟩ := e1'
          subst er
          rw [hrun0, eg]
          simp only [Deferred.ofValue, Sem.run_pure, Result.andThen_ok, invoke, Array.empty_append]
          rw [e2]
          refine ⟨(fun h => by cases h), round_FW (e3.mono ?_)⟩
          rintro e w' ⟨u, rfl, β', A', st1, hv⟩
          exact hk u w' β' A' st1 hv
        · cases htg

/-- one operation -/
theorem one_ok {f : Ss → Ss} {r : Ss} {K : St → Prop} {next : Act → World → Prop} {Q : Exit → Act → World → Prop} (h : trOne P N o = some f) (hw : wps P (f r) K st) (hs : SatB N st a w β A)
    (hk : ∀ a' w' β' A' st', wps P r K st' → Stp β A w (get st.hp) β' A' w' (get st'.hp) → SatB N st' a' w' β' A' → (∀ t, t ∉ o.dst.toList → a'.tmps[t]? = a.tmps[t]?) → a'.defers = a.defers → next a' w') :
    o.wpIn (FW ro) n P a w next Q := by
  unfold trOne at h
  split at h
  case isFalse => cases h
  rename_i hdst
  have plain : ∀ io, trOp P o = some io → f = Ss.op o.dst io → o.wpIn (FW ro) n P a w next Q := by
    intro io hio hf
    subst hf
    refine ⟨fun f _ => trivial, ?_⟩
    rw [Oper.semAt_eq ro a.eval o (trOp_defer hio)]
    simp only [wps] at hw
    split at hw
    · rename_i x hx
      obtain ⟨hc, hK⟩ := hw
      obtain ⟨u, β', A', w', hrun, st1, hv⟩ := trOp_ok hs.core hs.tmps hio hx hc
      have hsat := hs.app hdst st1 hv
      have hst : Stp β A w (get st.hp) β' A' w' (get (st.app o.dst x.v x.ups).hp) := by
        have : get (st.app o.dst x.v x.ups).hp = hputs (get st.hp) x.ups := get_puts x.ups st.hp
        rw [this]; exact st1
      have := hk (a.put o.dst u) w' β' A' _ hK hst hsat (fun t ht => put_get _ _ _ _ ht) (put_defers _ _ _)
      rcases hrun with hrun | ⟨hrun, rfl⟩
      · rw [hrun]; exact this
      · rw [hrun]; exact this
    · exact hw.elim
  split at h
  · rename_i g args argTypes ho
    split at h
    · rename_i fc xs hcal hxs
      split at h
      · rename_i hsz
        simp only [Option.some.injEq] at h
        subst h
        simp only [wps] at hw
        split at hw
        case h_2 => exact hw.elim
        rename_i f' vs htg
        obtain ⟨T, v, ups, hp1, hcok, hT, hp1e, hK⟩ := hw
        refine (call_run hs.core hs.tmps ho hcal hxs hsz htg hcok hT ?_ : o.wpIn (FW ro) n P a w next Q)
        intro u w' β' A' st1 hv
        have hh : get hp1 = hputs (get st.hp) ups := funext hp1e
        have hst : Stp β A w (get st.hp) β' A' w' (get (st.set o.dst v hp1).hp) := by
          show Stp β A w (get st.hp) β' A' w' (get hp1)
          rw [hh]; exact st1
        have hsat : SatB N (st.set o.dst v hp1) (a.put o.dst u) w' β' A' := by
          obtain ⟨q1, q2, q3⟩ := hs.app hdst st1 hv
          have e2 : get (st.app o.dst v ups).hp = get hp1 := (get_puts ups st.hp).trans hh.symm
          rw [e2] at q1 q2
          exact ⟨q1, q2, q3⟩
        exact hk (a.put o.dst u) w' β' A' _ hK hst hsat (fun t ht => put_get _ _ _ _ ht) (put_defers _ _ _)
      · cases h
    · cases h
  · rename_i hne
    obtain ⟨io, hio, rfl⟩ := map_some_eq h
    exact plain io hio rfl
end
end Av

namespace Av
open Go
variable [Glb] [Rls]

section
variable {P : Program} {N : Nat} {β : Blocks} {A : Nat → Prop} {w : World} {a : Act} {o : Oper} {ro : Option Nat} {n : Nat} {st : St} {ops : Array Oper} {Q : Exit → Act → World → Prop}

theorem trOne_dsts {f : Ss → Ss} (h : trOne P N o = some f) (r : Ss) : (f r).dsts = o.dst.toList ++ r.dsts := by
  unfold trOne at h
  split at h
  · split at h
    · split at h
      · split at h
        · cases h; rfl
        · cases h
      · cases h
    · obtain ⟨io, _, rfl⟩ := map_some_eq h; rfl
  · cases h

theorem trOne_dst {f : Ss → Ss} (h : trOne P N o = some f) : ∀ d ∈ o.dst.toList, d < N := by
  unfold trOne at h
  split at h
  · rename_i hd
    intro d hd'
    cases e : o.dst with
    | none => simp [e] at hd'
    | some d' => simp [e] at hd'; subst hd'; simpa [dstOk, e] using hd
  · cases h

theorem wanted_none (h : o.guard = none) (y : Nat → Option Bool) : Region.wanted o y = true := by simp [Region.wanted, h]
theorem wanted_some {j : Nat} {b : Bool} (h : o.guard = some (j, b)) (y : Nat → Option Bool) : Region.wanted o y = (y j == some b) := by simp [Region.wanted, h]

theorem yielded_at {j c : Nat} {v : Value} {tmps : Array Value} (hj : (ops[j]?).bind (·.dst) = some c) (hc : tmps[c]? = some v) : yielded ops tmps j = match v with | .bool b => some b | _ => none := by
  simp only [yielded, hj, Option.bind_some, hc]
  cases v <;> rfl

theorem skip_ok : ∀ (m : Nat) (j : Nat) (b : Bool) (asg l : List Nat) (s : Ss) (l' : List Nat) (a : Act) (c : Nat) (u : Value), trSs P N ops m (some (j, b)) asg l = some (s, l') → (ops[j]?).bind (·.dst) = some c → c ∉ s.dsts → a.tmps[c]? = some u → u ≠ .bool b →
    a.tmps.size = N → (∀ t ∈ asg, a.tmps[t]? = some undef) →
    (∀ a' : Act, (∀ t, t ∉ s.dsts → a'.tmps[t]? = a.tmps[t]?) → (∀ t ∈ s.dsts, a'.tmps[t]? = some undef) → a'.tmps.size = N → a'.defers = a.defers → wpOpsIn (FW ro) n P ops Q l' a' w) → wpOpsIn (FW ro) n P ops Q l a w
  | 0, j, b, asg, l, s, l', a, c, u, h, _, _, _, _, _, _, _ => by simp [trSs] at h
  | m + 1, j, b, asg, [], s, l', a, c, u, h, _, _, _, _, hsz, _, hk => by
    simp only [trSs, Option.some.injEq, Prod.mk.injEq] at h
    obtain ⟨rfl, rfl⟩ := h
    exact hk a (fun _ _ => rfl) (by simp [Ss.dsts]) hsz rfl
  | m + 1, j, b, asg, i :: l, s, l', a, c, u, h, hj, hcs, hcu, hub, hsz, hasg, hk => by
    have hny : (yielded ops a.tmps j == some b) = false := by
      rw [yielded_at hj hcu]
      cases u <;> simp_all
    unfold trSs at h
    split at h
    · cases h
    rename_i o ho
    split at h
    · rename_i hg
      split at h
      case h_2 => cases h
      rename_i f hf
      split at h
      case h_2 => cases h
      rename_i r l2 hr
      simp only [Option.some.injEq, Prod.mk.injEq] at h
      obtain ⟨rfl, rfl⟩ := h
      rw [trOne_dsts hf] at hcs hk
      simp only [wpOpsIn, ho, wanted_some hg, hny]
      refine ⟨fun _ _ => trivial, ?_⟩
      have hcd : c ∉ o.dst.toList := fun h => hcs (List.mem_append_left _ h)
      refine skip_ok m j b (o.dst.toList ++ asg) l r _ (a.put o.dst undef) c u hr hj (fun h => hcs (List.mem_append_right _ h)) (by rw [put_get _ _ _ _ hcd]; exact hcu) hub (by rw [put_size]; exact hsz) ?_ ?_
      · intro t ht
        by_cases htd : t ∈ o.dst.toList
        · have hlt := trOne_dst hf t htd
          cases e : o.dst with
          | none => simp [e] at htd
          | some d => simp only [e, Option.toList_some, List.mem_singleton] at htd; subst htd; exact put_at a _ undef (by rw [hsz]; exact hlt)
        · rw [put_get _ _ _ _ htd]
          rcases List.mem_append.1 ht with h | h
          · exact absurd h htd
          · exact hasg t h
      · intro a' h1 h2 h3 h4
        refine hk a' ?_ ?_ h3 (by rw [h4, put_defers])
        · intro t ht
          rw [h1 t (fun h => ht (List.mem_append_right _ h)), put_get _ _ _ _ (fun h => ht (List.mem_append_left _ h))]
        · intro t ht
          by_cases hr' : t ∈ r.dsts
          · exact h2 t hr'
          · rw [h1 t hr']
            have htd : t ∈ o.dst.toList := (List.mem_append.1 ht).resolve_right hr'
            have hlt := trOne_dst hf t htd
            cases e : o.dst with
            | none => simp [e] at htd
            | some d => simp only [e, Option.toList_some, List.mem_singleton] at htd; subst htd; exact put_at a _ undef (by rw [hsz]; exact hlt)
    · rename_i hg
      split at h
      · simp only [Option.some.injEq, Prod.mk.injEq] at h
        obtain ⟨rfl, rfl⟩ := h
        exact hk a (fun _ _ => rfl) (by simp [Ss.dsts]) hsz rfl
      · rename_i j2 b2 hg2
        split at h
        · cases h
        rename_i c2 hc2
        split at h
        case isFalse =>
          simp only [Option.some.injEq, Prod.mk.injEq] at h
          obtain ⟨rfl, rfl⟩ := h
          exact hk a (fun _ _ => rfl) (by simp [Ss.dsts]) hsz rfl
        rename_i hin
        have hin' : c2 ∈ asg := by simpa using hin
        split at h
        case h_2 => cases h
        rename_i body i' l2 hb
        split at h
        case h_2 => cases h
        rename_i pk hpk
        split at h
        case h_2 => cases h
        rename_i c' x y d hop hdst
        split at h
        case h_2 => cases h
        rename_i z hz
        split at h
        case isFalse => cases h
        rename_i hcond
        obtain ⟨k1, k2, k3, k4, k5⟩ := hcond
        split at h
        case h_2 => cases h
        rename_i r l3 hr
        simp only [Option.some.injEq, Prod.mk.injEq] at h
        obtain ⟨rfl, rfl⟩ := h
        simp only [Ss.dsts, List.mem_append, List.mem_cons, not_or] at hcs hk
        obtain ⟨q1, q2, q3⟩ := hcs
        refine skip_ok m j2 b2 [] (i :: l) body _ a c2 undef hb hc2 (by simpa using k4) (hasg c2 hin') (by cases b2 <;> simp [undef]) hsz (by simp) ?_
        intro a1 h1 h2 h3 h4
        have hny1 : (yielded ops a1.tmps j == some b) = false := by
          rw [yielded_at hj (show a1.tmps[c]? = some u by rw [h1 c q1]; exact hcu)]
          cases u <;> simp_all
        simp only [wpOpsIn, hpk, wanted_some k1, hny1]
        refine ⟨fun _ _ => trivial, ?_⟩
        rw [hdst]
        refine skip_ok m j b (d :: (body.dsts ++ asg)) l2 r _ (a1.put (some d) undef) c u hr hj q3 (by rw [put_get _ _ _ _ (by simpa using q2), h1 c q1]; exact hcu) hub (by rw [put_size]; exact h3) ?_ ?_
        · intro t ht
          by_cases e : t = d
          · subst e; exact put_at a1 _ undef (by rw [h3]; exact k3)
          · rw [put_get _ _ _ _ (by simpa using e)]
            by_cases hbt : t ∈ body.dsts
            · exact h2 t hbt
            · rw [h1 t hbt]
              simp only [List.mem_cons, List.mem_append] at ht
              rcases ht with h | h | h
              · exact absurd h e
              · exact absurd h hbt
              · exact hasg t h
        · intro a' g1 g2 g3 g4
          refine hk a' ?_ ?_ g3 (by rw [g4, put_defers, h4])
          · rintro t ⟨t1, t2, t3⟩
            rw [g1 t t3, put_get _ _ _ _ (by simpa using t2), h1 t t1]
          · intro t ht
            by_cases e1 : t ∈ r.dsts
            · exact g2 t e1
            · rw [g1 t e1]
              by_cases e2 : t = d
              · subst e2; exact put_at a1 _ undef (by rw [h3]; exact k3)
              · rw [put_get _ _ _ _ (by simpa using e2)]
                rcases ht with h | h | h
                · exact h2 t h
                · exact absurd h e2
                · exact absurd h e1
  termination_by m => m

/-- a bool in a temporary -/
theorem SatB.bool_at {c : Nat} {x : Bool} (hs : SatB N st a w β A) (h : get st.tm c = some (.d (.bool x))) : a.tmps[c]? = some (.bool x) := by
  obtain ⟨u, h1, h2⟩ := hs.tmps c _ h
  have := h2.of_d
  cases this
  exact h1

theorem seq_ok : ∀ (m : Nat) (g : Option (Nat × Bool)) (asg l : List Nat) (s : Ss) (l' : List Nat) (K : St → Prop) (st : St) (a : Act) (w : World) (β : Blocks) (A : Nat → Prop), trSs P N ops m g asg l = some (s, l') →
    (∀ j b, g = some (j, b) → ∃ c, (ops[j]?).bind (·.dst) = some c ∧ c ∉ s.dsts ∧ a.tmps[c]? = some (.bool b)) → wps P s K st → SatB N st a w β A →
    (∀ a' w' β' A' st', K st' → Stp β A w (get st.hp) β' A' w' (get st'.hp) → SatB N st' a' w' β' A' → (∀ t, t ∉ s.dsts → a'.tmps[t]? = a.tmps[t]?) → a'.defers = a.defers → wpOpsIn (FW ro) n P ops Q l' a' w') →
    wpOpsIn (FW ro) n P ops Q l a w
  | 0, g, asg, l, s, l', K, st, a, w, β, A, h, _, _, _, _ => by simp [trSs] at h
  | m + 1, g, asg, [], s, l', K, st, a, w, β, A, h, _, hw, hs, hk => by
    simp only [trSs, Option.some.injEq, Prod.mk.injEq] at h
    obtain ⟨rfl, rfl⟩ := h
    exact hk a w β A st hw (Stp.refl hs.core) hs (fun _ _ => rfl) rfl
  | m + 1, g, asg, i :: l, s, l', K, st, a, w, β, A, h, hgo, hw, hs, hk => by
    have want : ∀ (o : Oper) (a' : Act), o.guard = g → (∀ t, t ∉ s.dsts → a'.tmps[t]? = a.tmps[t]?) → Region.wanted o (yielded ops a'.tmps) = true := by
      intro o a' hg hfr
      cases g with
      | none => exact wanted_none hg _
      | some jb =>
        obtain ⟨j, b⟩ := jb
        obtain ⟨c, h1, h2, h3⟩ := hgo j b rfl
        rw [wanted_some hg, yielded_at h1 (show a'.tmps[c]? = some (.bool b) by rw [hfr c h2]; exact h3)]
        simp
    unfold trSs at h
    split at h
    · cases h
    rename_i o ho
    split at h
    · rename_i hg
      split at h
      case h_2 => cases h
      rename_i f hf
      split at h
      case h_2 => cases h
      rename_i r l2 hr
      simp only [Option.some.injEq, Prod.mk.injEq] at h
      obtain ⟨rfl, rfl⟩ := h
      have hwant := want o a hg (fun _ _ => rfl)
      simp only [wpOpsIn, ho, hwant, if_true]
      refine one_ok hf hw hs ?_
      intro a' w' β' A' st' hw' hst hs' hfr hdf
      rw [trOne_dsts hf] at hgo hk
      refine seq_ok m g _ l r _ K st' a' w' β' A' hr ?_ hw' hs' ?_
      · intro j b hjb
        obtain ⟨c, h1, h2, h3⟩ := hgo j b hjb
        exact ⟨c, h1, fun h => h2 (List.mem_append_right _ h), by rw [hfr c (fun h => h2 (List.mem_append_left _ h))]; exact h3⟩
      · intro a2 w2 β2 A2 st2 hK hst2 hs2 hfr2 hdf2
        exact hk a2 w2 β2 A2 st2 hK (hst.trans hst2) hs2 (fun t ht => by rw [hfr2 t (fun h => ht (List.mem_append_right _ h)), hfr t (fun h => ht (List.mem_append_left _ h))]) (by rw [hdf2, hdf])
    · rename_i hg
      split at h
      · simp only [Option.some.injEq, Prod.mk.injEq] at h
        obtain ⟨rfl, rfl⟩ := h
        exact hk a w β A st hw (Stp.refl hs.core) hs (fun _ _ => rfl) rfl
      · rename_i j2 b2 hg2
        split at h
        · cases h
        rename_i c2 hc2
        split at h
        case isFalse =>
          simp only [Option.some.injEq, Prod.mk.injEq] at h
          obtain ⟨rfl, rfl⟩ := h
          exact hk a w β A st hw (Stp.refl hs.core) hs (fun _ _ => rfl) rfl
        split at h
        case h_2 => cases h
        rename_i body i' l2 hb
        split at h
        case h_2 => cases h
        rename_i pk hpk
        split at h
        case h_2 => cases h
        rename_i c' x y d hop hdst
        split at h
        case h_2 => cases h
        rename_i z hz
        split at h
        case isFalse => cases h
        rename_i hcond
        obtain ⟨k1, rfl, k3, k4, k5⟩ := hcond
        split at h
        case h_2 => cases h
        rename_i r l3 hr
        simp only [Option.some.injEq, Prod.mk.injEq] at h
        obtain ⟨rfl, rfl⟩ := h
        simp only [wps] at hw
        split at hw
        case h_2 => exact hw.elim
        rename_i xv hxv
        obtain ⟨yv, hp1, hbody, hskip, hrest⟩ := hw
        have hcx := hs.bool_at hxv
        have hcb : c' ∉ body.dsts := by simpa using k4
        -- behind the group: the choice
        have fin : ∀ (a1 : Act) (w1 : World) (β1 : Blocks) (A1 : Nat → Prop) (hstp : Stp β A w (get st.hp) β1 A1 w1 (get hp1)), (∀ t, t ∉ body.dsts → a1.tmps[t]? = a.tmps[t]?) → a1.tmps.size = N → a1.defers = a.defers →
            (xv = b2 → a1.eval (if b2 then x else y) = .bool yv) → wpOpsIn (FW ro) n P ops Q (i' :: l2) a1 w1 := by
          intro a1 w1 β1 A1 hstp hfr hsz hdf hyv
          have hwant := want pk a1 k1 (fun t ht => hfr t (fun h => ht (by simp [Ss.dsts, h])))
          have hc1 : a1.eval (.tmp c') = .bool xv := by
            have : a1.tmps[c']? = some (.bool xv) := by rw [hfr c' hcb]; exact hcx
            simp [Act.eval, Array.getD_eq_getD_getElem?, this]
          have hres : (if xv then a1.eval x else a1.eval y) = .bool (if b2 then xv && yv else xv || yv) := by
            unfold pickOk at k5
            split at k5
            · cases xv
              · rfl
              · have := hyv rfl; simpa using this
            · cases xv
              · have := hyv rfl; simpa using this
              · rfl
            · cases k5
          simp only [wpOpsIn, hpk, hwant, if_true, Oper.wpIn]
          refine ⟨fun _ _ => trivial, ?_⟩
          have hrun : (execOp a1.eval pk).run P w1 = .ok (.value (.bool (if b2 then xv && yv else xv || yv))) w1 := by
            simp only [execOp, hop, Sem.run_bind, hc1, asBool, Sem.run_pure, Result.andThen_ok]
            rw [← hres]
          rw [Oper.semAt_eq ro a1.eval pk (by intro c hc; rw [hop] at hc; cases hc), hrun]
          simp only [Oper.uponIn, hdst]
          refine seq_ok m g _ l2 r _ K ⟨put (drops st.tm body.dsts) d (.d (.bool (if b2 then xv && yv else xv || yv))), hp1⟩ (a1.put (some d) _) w1 β1 A1 hr ?_ hrest ?_ ?_
          · intro j b hjb
            obtain ⟨c, h1, h2, h3⟩ := hgo j b hjb
            simp only [Ss.dsts, List.mem_append, List.mem_cons, not_or] at h2
            exact ⟨c, h1, h2.2.2, by rw [put_get _ _ _ _ (by simpa using h2.2.1), hfr c h2.1]; exact h3⟩
          · refine ⟨hstp.core, ?_, by rw [put_size]; exact hsz⟩
            intro t v ht
            simp only [get_put] at ht
            split at ht
            · rename_i e
              subst e
              cases ht
              exact ⟨_, put_at a1 _ _ (by rw [hsz]; exact k3), .d _ _ (.bool _)⟩
            · rename_i e
              rw [get_drops] at ht
              split at ht
              · cases ht
              · rename_i hnb
                have hnb' : t ∉ body.dsts := by simpa using hnb
                obtain ⟨u, h1, h2⟩ := hs.tmps t v ht
                exact ⟨u, by rw [put_get _ _ _ _ (by simpa using e), hfr t hnb']; exact h1, hstp.vals _ _ h2⟩
          · intro a2 w2 β2 A2 st2 hK hst2 hs2 hfr2 hdf2
            refine hk a2 w2 β2 A2 st2 hK (hstp.trans hst2) hs2 ?_ (by rw [hdf2, put_defers, hdf])
            intro t ht
            simp only [Ss.dsts, List.mem_append, List.mem_cons, not_or] at ht
            rw [hfr2 t ht.2.2, put_get _ _ _ _ (by simpa using ht.2.1), hfr t ht.1]
        by_cases hxb : xv = b2
        · refine seq_ok m (some (j2, b2)) [] (i :: l) body _ _ st a w β A hb ?_ (hbody hxb) hs ?_
          · intro j b hjb
            cases hjb
            exact ⟨c', hc2, hcb, by rw [← hxb]; exact hcx⟩
          · rintro a1 w1 β1 A1 st1 ⟨hy, hh⟩ hst1 hs1 hfr1 hdf1
            rw [hh] at hst1
            refine fin a1 w1 β1 A1 hst1 hfr1 hs1.size hdf1 (fun _ => ?_)
            have := (opd_ok hz hy hs1.tmps).of_d
            generalize a1.eval (if b2 then x else y) = u at *
            cases this
            rfl
        · refine skip_ok m j2 b2 [] (i :: l) body _ a c' (.bool xv) hb hc2 hcb hcx (by intro e; cases e; exact hxb rfl) hs.size (by simp) ?_
          intro a1 h1 h2 h3 h4
          have e1 := hskip hxb
          subst e1
          exact fin a1 w β A (Stp.refl hs.core) h1 h3 h4 (fun h => absurd h hxb)
  termination_by m => m
end
end Av

namespace Av
open Go
variable [Glb] [Rls]

theorem hputs_other : ∀ (ups : List (Nat × Obj)) (H : Heap) (j : Nat), (∀ e ∈ ups, e.1 ≠ j) → hputs H ups j = H j
  | [], _, _, _ => rfl
  | (i, o) :: r, H, j, h => by
    simp only [hputs]
    rw [hputs_other r _ j (fun e he => h e (List.mem_cons_of_mem _ he))]
    unfold upd
    rw [if_neg (fun e => h (i, o) List.mem_cons_self e.symm)]

theorem hputs_some : ∀ (ups : List (Nat × Obj)) (H : Heap) (j : Nat), (H j).isSome = true → (hputs H ups j).isSome = true
  | [], _, _, h => h
  | (i, o) :: r, H, j, h => by
    simp only [hputs]
    refine hputs_some r _ j ?_
    unfold upd
    split
    · rfl
    · exact h

theorem hputs_dom : ∀ (ups : List (Nat × Obj)) (H : Heap) (j : Nat), (∀ e ∈ ups, (H e.1).isSome = true) → (hputs H ups j).isSome = true → (H j).isSome = true
  | [], _, _, _, h => h
  | (i, o) :: r, H, j, hd, h => by
    simp only [hputs] at h
    have := hputs_dom r (upd H i (some o)) j (fun e he => by
      unfold upd
      split
      · rfl
      · exact hd e (List.mem_cons_of_mem _ he)) h
    unfold upd at this
    split at this
    · rename_i e; rw [e]; exact hd (i, o) List.mem_cons_self
    · exact this

/-- the second knows what the first knows of these temporaries -/
def LeOn (ts : List Nat) (τ τ' : Tmps) : Prop := ∀ t ∈ ts, ∀ v, τ t = some v → τ' t = some v

section
variable {τ τ' : Tmps} {H H' : Heap}

theorem LeOn.left {a b : List Nat} (h : LeOn (a ++ b) τ τ') : LeOn a τ τ' := fun t ht => h t (List.mem_append_left _ ht)
theorem LeOn.right {a b : List Nat} (h : LeOn (a ++ b) τ τ') : LeOn b τ τ' := fun t ht => h t (List.mem_append_right _ ht)

theorem val_le {x : Opd} {v : Av} (h : LeOn (tO x) τ τ') (hv : val τ x = some v) : val τ' x = some v := by
  cases x with
  | t n => exact h n (by simp [tO]) v hv
  | k d => exact hv

theorem vals_le : ∀ {xs : List Opd} {vs : List Av}, LeOn (xs.flatMap tO) τ τ' → vals τ xs = some vs → vals τ' xs = some vs
  | [], vs, _, h => h
  | x :: xs, vs, hle, h => by
    simp only [vals] at h ⊢
    rw [List.flatMap_cons] at hle
    cases e1 : val τ x with
    | none => simp [e1] at h
    | some v =>
      simp only [e1] at h
      cases e2 : vals τ xs with
      | none => simp [e2] at h
      | some us =>
        simp only [e2] at h
        rw [val_le hle.left e1]
        simp only [vals_le hle.right e2]
        exact h

theorem ofBound_le {d l : Int} {x : Option Opd} (h : LeOn (tOO x) τ τ') (hv : ofBound τ d x = some l) : ofBound τ' d x = some l := by
  cases x with
  | none => exact hv
  | some x =>
    simp only [ofBound] at hv ⊢
    cases e1 : val τ x with
    | none => simp [e1] at hv
    | some v => rw [e1] at hv; rw [val_le h e1]; exact hv

theorem fillP_le : ∀ {ps : List (Nat × Nat × Opd)} {cs out : List Av}, LeOn (ps.flatMap fun p => tO p.2.2) τ τ' → fillP τ cs ps = some out → fillP τ' cs ps = some out
  | [], cs, out, _, h => h
  | (off, n, x) :: r, cs, out, hle, h => by
    simp only [fillP] at h ⊢
    rw [List.flatMap_cons] at hle
    cases e1 : val τ x with
    | none => simp [e1] at h
    | some v =>
      simp only [e1] at h
      rw [val_le hle.left e1]
      simp only
      split at h
      · rename_i vs hvs
        split at h
        · rename_i hc
          rw [if_pos hc]
          exact fillP_le hle.right h
        · cases h
      · cases h

theorem listOf_eq {v : Av} (h : ∀ x ∈ ids v, H x = H' x) : listOf H v = listOf H' v := by
  cases v with
  | ms i ver => simp only [listOf, h i (by simp [ids])]
  | sub i ver off len => simp only [listOf, h i (by simp [ids])]
  | d x => cases x <;> rfl
  | _ => rfl
theorem curr_eq {v : Av} (h : ∀ x ∈ ids v, H x = H' x) : curr H v = curr H' v := by
  cases v with
  | ms i ver => simp only [curr, h i (by simp [ids])]
  | sub i ver off len => simp only [curr, h i (by simp [ids])]
  | _ => rfl
theorem trRow_eq {i : Nat} {hd : Hd} (h : H i = H' i) : trRow H i hd = trRow H' i hd := by simp only [trRow, h]
theorem ownOf_eq {v : Av} (h : ∀ x ∈ ids v, H x = H' x) : ownOf H v = ownOf H' v := by
  cases v with
  | ms i ver => simp only [ownOf, h i (by simp [ids])]
  | tr i hd => simp only [ownOf, h i (by simp [ids])]
  | _ => rfl
theorem ownAll_eq : ∀ {cs : List Av}, (∀ x ∈ cs.flatMap ids, H x = H' x) → ownAll H cs = ownAll H' cs
  | [], _ => rfl
  | c :: r, h => by
    rw [List.flatMap_cons] at h
    have h1 := ownAll_eq (cs := r) fun x hx => h x (List.mem_append_right _ hx)
    have h2 := ownOf_eq (v := c) fun x hx => h x (List.mem_append_left _ hx)
    cases c <;> simp only [ownAll, h1, h2]
theorem blsT_eq {d sz : Nat} {vs : List Av} (hd : H d = H' d) (h : ∀ x ∈ vs.flatMap idsC, H x = H' x) : blsT H d sz vs = blsT H' d sz vs := by
  unfold blsT
  split
  · rename_i cs
    rw [hd, ownAll_eq (H := H) (H' := H') (by simpa [idsC] using h)]
  · rfl
theorem appT_eq {d sz : Nat} {u v : Av} (hd : H d = H' d) (hu : ∀ x ∈ ids u, H x = H' x) (hv : ∀ x ∈ ids v, H x = H' x) : appT H d sz u v = appT H' d sz u v := by
  cases v with
  | tr j hh =>
    simp only [appT, ownOf_eq hv, hd]
    cases u with
    | tr i h => simp only [hu i (by simp [ids])]
    | d q => cases q <;> rfl
    | _ => rfl
  | _ => rfl
theorem appR_eq {d sz sz' i : Nat} {q : Prop} {ys : List Dat} {hd : Hd} (h1 : H d = H' d) (h2 : H i = H' i) : appR H d sz q sz' ys i hd = appR H' d sz q sz' ys i hd := by
  simp only [appR, h1, h2]
theorem stoT_eq {n : Option Nat} {i : Nat} {h : Hd} {v : Av} (hi : H i = H' i) (hv : ∀ x ∈ ids v, H x = H' x) : stoT H n i h v = stoT H' n i h v := by
  unfold stoT
  rw [hi]
  have ho := ownOf_eq hv
  cases v <;> first | rfl | simp only [ho]
theorem cloRef_eq2 {fs cs : List Av} {i : Nat} (h : cloRef fs cs = some i) : fs = [] ∧ cs = [.ref i 0] := by
  unfold cloRef at h
  split at h
  · cases h; exact ⟨rfl, rfl⟩
  · cases h
theorem datum1_eq {v : Av} (h : ∀ x ∈ ids v, H x = H' x) : datum1 H v = datum1 H' v := by
  cases v with
  | tr i hd => simp only [datum1, h i (by simp [ids])]
  | ms i ver => simp only [datum1, h i (by simp [ids])]
  | sub i ver off len => simp only [datum1, h i (by simp [ids])]
  | ref i off => simp only [datum1, h i (by simp [ids])]
  | mp i => simp only [datum1, h i (by simp [ids])]
  | clo f fs cs =>
    simp only [datum1]
    cases e : cloRef fs cs with
    | none => rfl
    | some i =>
      obtain ⟨rfl, rfl⟩ := cloRef_eq2 e
      simp only [h i (by simp [ids, cloRef])]
  | _ => rfl

theorem hputs_eq : ∀ (ups : List (Nat × Obj)) {H H' : Heap} {x : Nat}, H x = H' x → hputs H ups x = hputs H' ups x
  | [], _, _, _, h => h
  | (i, o) :: r, H, H', x, h => by
    simp only [hputs]
    refine hputs_eq r ?_
    unfold upd
    split
    · rfl
    · exact h

theorem datums_eq : ∀ {cs : List Av} {H H' : Heap}, (∀ x ∈ cs.flatMap ids, H x = H' x) → datums H cs = datums H' cs
  | [], _, _, _ => rfl
  | c :: r, H, H', h => by
    simp only [datums]
    rw [List.flatMap_cons] at h
    rw [datum1_eq (fun x hx => h x (List.mem_append_left _ hx))]
    split
    · rename_i p x u _
      rw [datums_eq (cs := r) (fun x hx => hputs_eq u (h x (List.mem_append_right _ hx)))]
    · rfl

theorem datum_eq {v : Av} (h : ∀ x ∈ idsC v, H x = H' x) : datum H v = datum H' v := by
  cases v with
  | agg cs => simp only [datum]; rw [datums_eq (by simpa [idsC] using h)]
  | _ => exact datum1_eq (by simpa [idsC] using h)

theorem datumAll_eq : ∀ {cs : List Av} {H H' : Heap}, (∀ x ∈ cs.flatMap idsC, H x = H' x) → datumAll H cs = datumAll H' cs
  | [], _, _, _ => rfl
  | c :: r, H, H', h => by
    simp only [datumAll]
    rw [List.flatMap_cons] at h
    rw [datum_eq (fun x hx => h x (List.mem_append_left _ hx))]
    split
    · rename_i p x u _
      rw [datumAll_eq (cs := r) (fun x hx => hputs_eq u (h x (List.mem_append_right _ hx)))]
    · rfl

theorem idsOf_le {x : Opd} {v : Av} (h : LeOn (tO x) τ τ') (hv : val τ x = some v) : idsOf τ x = ids v ∧ idsOf τ' x = ids v := by
  simp only [idsOf, hv, val_le h hv, and_self]

def bIds (τ : Tmps) (x : Opd) : List Nat := match val τ x with
  | some v => idsC v
  | none => []
theorem rd_bls : ∀ {xs : List Opd} {vs : List Av}, vals τ xs = some vs → xs.flatMap (bIds τ) = vs.flatMap idsC
  | [], vs, h => by simp only [vals, Option.some.injEq] at h; subst h; rfl
  | x :: xs, vs, h => by
    simp only [vals] at h
    cases e1 : val τ x with
    | none => simp [e1] at h
    | some v =>
      simp only [e1] at h
      cases e2 : vals τ xs with
      | none => simp [e2] at h
      | some us =>
        simp only [e2, Option.some.injEq] at h
        subst h
        rw [List.flatMap_cons, List.flatMap_cons, rd_bls e2]
        simp only [bIds, e1]

theorem step_le {d : Nat} {io : IOp} {r : Res} (h : step τ H d io = some r) (hle : LeOn (tI io) τ τ') (hH : ∀ x ∈ rd τ d io, H x = H' x) : step τ' H' d io = some r ∧ rd τ' d io = rd τ d io := by
  -- operands that are there are there
  have two : ∀ {x y : Opd} {f : Av → Av → Option Res}, LeOn (tO x ++ tO y) τ τ' → (match val τ x, val τ y with | some u, some v => f u v | _, _ => none) = some r →
      ∃ u v, val τ x = some u ∧ val τ y = some v ∧ val τ' x = some u ∧ val τ' y = some v := by
    intro x y f hl h
    cases e : val τ x with
    | none => simp [e] at h
    | some u => cases e2 : val τ y with
      | none => simp [e, e2] at h
      | some v => exact ⟨u, v, rfl, rfl, val_le hl.left e, val_le hl.right e2⟩
  cases io with
  | mov x =>
    simp only [step] at h ⊢
    obtain ⟨v, hv, rfl⟩ := Option.map_eq_some_iff.1 h
    rw [val_le hle hv]; exact ⟨rfl, rfl⟩
  | new zs =>
    simp only [step] at h ⊢
    rw [← hH d (by simp [rd])]; first | exact ⟨h, rfl⟩ | exact ⟨h, trivial⟩
  | mkm =>
    simp only [step] at h ⊢
    rw [← hH d (by simp [rd])]; first | exact ⟨h, rfl⟩ | exact ⟨h, trivial⟩
  | bad => simp [step] at h
  | i2s x =>
    simp only [step] at h ⊢
    cases e : val τ x with
    | none => simp [e] at h
    | some v => rw [e] at h; rw [val_le hle e]; exact ⟨h, by simp [rd]⟩
  | s2b x =>
    simp only [step] at h ⊢
    cases e : val τ x with
    | none => simp [e] at h
    | some v => rw [e] at h; rw [val_le hle e]; exact ⟨h, by simp [rd]⟩
  | rgs x =>
    simp only [step] at h ⊢
    rw [← hH d (by simp [rd])]
    cases e : val τ x with
    | none => simp [e] at h
    | some v => rw [e] at h; rw [val_le hle e]; exact ⟨h, by simp [rd]⟩
  | nxs x =>
    simp only [step] at h ⊢
    cases e : val τ x with
    | none => simp [e] at h
    | some v =>
      obtain ⟨g1, g2⟩ := idsOf_le hle e
      rw [e] at h
      rw [val_le hle e]
      refine ⟨?_, by simp only [rd, g1, g2]⟩
      cases v with
      | mp i => simp only [← hH i (by simp [rd, g1, ids])]; exact h
      | _ => exact h
  | b2s x =>
    simp only [step] at h ⊢
    cases e : val τ x with
    | none => simp [e] at h
    | some v =>
      obtain ⟨g1, g2⟩ := idsOf_le hle e
      rw [e] at h
      rw [val_le hle e]
      have hv : ∀ y ∈ ids v, H y = H' y := fun y hy => hH y (by simp only [rd, g1]; exact hy)
      refine ⟨?_, by simp only [rd, g1, g2]⟩
      simp only [← listOf_eq hv, ← curr_eq hv]
      exact h
  | box x =>
    simp only [step] at h ⊢
    rw [← hH d (by simp [rd])]
    cases e : val τ x with
    | none => simp [e] at h
    | some v => rw [e] at h; rw [val_le hle e]; first | exact ⟨h, rfl⟩ | exact ⟨h, trivial⟩
  | bld zs ps =>
    simp only [step] at h ⊢
    cases e : fillP τ (zs.map .d) ps with
    | none => simp [e] at h
    | some cs => rw [e] at h; rw [fillP_le hle e]; first | exact ⟨h, rfl⟩ | exact ⟨h, trivial⟩
  | bls sz xs =>
    simp only [step] at h ⊢
    cases e : vals τ xs with
    | none => simp [e] at h
    | some vs =>
      have e' := vals_le hle e
      rw [e] at h
      rw [e']
      change ∀ x ∈ d :: xs.flatMap (bIds τ), H x = H' x at hH
      change _ ∧ d :: xs.flatMap (bIds τ') = d :: xs.flatMap (bIds τ)
      rw [rd_bls e] at hH ⊢
      rw [rd_bls e']
      simp only at h ⊢
      rw [← blsT_eq (hH d List.mem_cons_self) (fun x hx => hH x (List.mem_cons_of_mem _ hx)), ← datumAll_eq (fun x hx => hH x (List.mem_cons_of_mem _ hx)), ← hH d List.mem_cons_self]
      first | exact ⟨h, rfl⟩ | exact ⟨h, trivial⟩
  | ld n x =>
    simp only [step] at h ⊢
    cases e : val τ x with
    | none => simp [e] at h
    | some v =>
      have ii := idsOf_le hle e
      simp only [rd] at hH ⊢
      rw [ii.1] at hH ⊢
      rw [ii.2]
      rw [e] at h
      rw [val_le hle e]
      first | refine ⟨?_, rfl⟩ | refine ⟨?_, trivial⟩
      cases v with
      | ref i off => simp only [hH i (by simp [ids])] at h; exact h
      | el i ver k off => simp only [hH i (by simp [ids])] at h; exact h
      | tr i hd => simp only [trRow_eq (hd := hd) (hH i (by simp [ids]))] at h; exact h
      | d q => cases q <;> exact h
      | _ => exact h
  | sto n x y =>
    simp only [step] at h ⊢
    cases e : val τ x with
    | none => simp [e] at h
    | some v =>
      cases e2 : val τ y with
      | none => rw [e, e2] at h; cases v <;> simp at h
      | some u =>
        have ii := idsOf_le hle.left e
        have jj := idsOf_le hle.right e2
        simp only [rd, e, val_le hle.left e] at hH ⊢
        rw [ii.1, jj.1] at hH ⊢
        rw [ii.2, jj.2]
        rw [e, e2] at h
        rw [val_le hle.right e2]
        first | refine ⟨?_, rfl⟩ | refine ⟨?_, trivial⟩
        cases v with
        | ref i off => simp only [hH i (by simp [ids])] at h; exact h
        | el i ver k off => cases u with
          | d q => simp only [hH i (by simp [ids])] at h; exact h
          | _ => exact h
        | tr i hd =>
          simp only at h hH ⊢
          rw [← stoT_eq (hH i (by simp [ids])) (fun z hz => hH z (List.mem_append_right _ hz))]
          exact h
        | _ => exact h
  | ixa ag sz x y =>
    simp only [step] at h ⊢
    cases e : val τ x with
    | none => simp [e] at h
    | some v =>
      cases e2 : val τ y with
      | none => rw [e, e2] at h; cases v <;> simp at h
      | some u =>
        have ii := idsOf_le hle.left e
        simp only [rd] at hH ⊢
        rw [ii.1] at hH ⊢
        rw [ii.2]
        rw [e, e2] at h
        rw [val_le hle.left e, val_le hle.right e2]
        first | refine ⟨?_, rfl⟩ | refine ⟨?_, trivial⟩
        cases v with
        | ms i ver => cases u with
          | d q => cases q with
            | int k n => simp only [hH i (by simp [ids])] at h; exact h
            | _ => exact h
          | _ => exact h
        | sub i ver off len => cases u with
          | d q => cases q with
            | int k n => simp only [hH i (by simp [ids])] at h; exact h
            | _ => exact h
          | _ => exact h
        | tr i hd => cases u with
          | d q => cases q with
            | int k n => simp only [trRow_eq (hd := hd) (hH i (by simp [ids]))] at h; exact h
            | _ => exact h
          | _ => exact h
        | d q => cases q <;> first | exact h | (cases u <;> first | exact h | (rename_i q; cases q <;> exact h))
        | _ => exact h
  | len x =>
    simp only [step] at h ⊢
    cases e : val τ x with
    | none => simp [e] at h
    | some v =>
      have ii := idsOf_le hle e
      simp only [rd] at hH ⊢
      rw [ii.1] at hH ⊢
      rw [ii.2]
      rw [e] at h
      rw [val_le hle e]
      simp only at h ⊢
      rw [← listOf_eq hH, ← curr_eq hH]
      first | refine ⟨?_, rfl⟩ | refine ⟨?_, trivial⟩
      cases v with
      | tr i hd => simp only [trRow_eq (hd := hd) (hH i (by simp [ids]))] at h; exact h
      | _ => exact h
  | slc n x lo hi mx =>
    simp only [step] at h ⊢
    cases e : val τ x with
    | none => simp [e] at h
    | some v =>
      have ii := idsOf_le hle.left e
      simp only [rd] at hH ⊢
      rw [ii.1] at hH ⊢
      rw [ii.2]
      rw [e] at h
      rw [val_le hle.left e]
      simp only at h ⊢
      rw [← listOf_eq hH, ← curr_eq hH]
      first | refine ⟨?_, rfl⟩ | refine ⟨?_, trivial⟩
      cases el : listOf H v with
      | none => simp [el] at h
      | some q =>
        obtain ⟨sz, xs⟩ := q
        simp only [el] at h ⊢
        cases mx with
        | none =>
          simp only at h ⊢
          cases e1 : ofBound τ 0 lo with
          | none => simp [e1] at h
          | some l => cases e2 : ofBound τ xs.length hi with
            | none => simp [e1, e2] at h
            | some hh => rw [e1, e2] at h; rw [ofBound_le hle.right.left e1, ofBound_le hle.right.right.left e2]; exact h
        | some m => cases m with
          | t k => exact h
          | k q => cases q with
            | int k n => split at h <;> simp_all
            | _ => exact h
  | sls x lo hi =>
    simp only [step] at h ⊢
    cases e : val τ x with
    | none => simp [e] at h
    | some v =>
      rw [e] at h
      rw [val_le hle.left e]
      first | refine ⟨?_, rfl⟩ | refine ⟨?_, trivial⟩
      cases v with
      | d q => cases q with
        | str s =>
          simp only at h ⊢
          cases e1 : ofBound τ 0 lo with
          | none => simp [e1] at h
          | some l => cases e2 : ofBound τ s.length hi with
            | none => simp [e1, e2] at h
            | some hh => rw [e1, e2] at h; rw [ofBound_le hle.right.left e1, ofBound_le hle.right.right e2]; exact h
        | _ => exact h
      | _ => exact h
  | app sz x y =>
    simp only [step] at h ⊢
    cases e : val τ x with
    | none => simp [e] at h
    | some u =>
      cases e2 : val τ y with
      | none => rw [e, e2] at h; simp at h
      | some v =>
        have i1 := idsOf_le hle.left e
        have i2 := idsOf_le hle.right e2
        simp only [rd] at hH ⊢
        rw [i1.1, i2.1] at hH ⊢
        rw [i1.2, i2.2]
        rw [e, e2] at h
        rw [val_le hle.left e, val_le hle.right e2]
        simp only at h ⊢
        have hv : ∀ z ∈ ids v, H z = H' z := fun z hz => hH z (by simp [hz])
        rw [← listOf_eq hv, ← curr_eq hv]
        first | refine ⟨?_, rfl⟩ | refine ⟨?_, trivial⟩
        cases el : listOf H v with
        | none =>
          simp only [el] at h ⊢
          rw [← appT_eq (hH d (by simp)) (fun z hz => hH z (by simp [hz])) hv]
          exact h
        | some q =>
          simp only [el] at h ⊢
          cases u with
          | d q => cases q with
            | nil sz => simp only [hH d (by simp)] at h; exact h
            | _ => exact h
          | ms i ver => simp only [hH i (by simp [ids])] at h; exact h
          | sub i ver off n => cases off with
            | zero => simp only [hH i (by simp [ids])] at h; exact h
            | succ off => exact h
          | tr i hh => simp only [appR_eq (hd := hh) (hH d (by simp)) (hH i (by simp [ids]))] at h; exact h
          | _ => exact h
  | nilq f n x =>
    simp only [step] at h ⊢
    cases e : val τ x with
    | none => simp [e] at h
    | some v =>
      obtain ⟨g1, g2⟩ := idsOf_le hle e
      rw [e] at h
      rw [val_le hle e]
      have hv : ∀ y ∈ ids v, H y = H' y := fun y hy => hH y (by simp only [rd, g1]; exact hy)
      refine ⟨?_, by simp only [rd, g1, g2]⟩
      simp only [← listOf_eq hv, ← curr_eq hv]
      exact h
  | mks sz zs l c =>
    simp only [step] at h ⊢
    rw [← hH d (by simp [rd])]
    cases eh : H d with
    | some o => simp [eh] at h
    | none =>
      rw [eh] at h
      cases e : val τ l with
      | none => simp [e] at h
      | some u => cases e2 : val τ c with
        | none => rw [e, e2] at h; simp at h
        | some v => rw [e, e2] at h; rw [val_le hle.left e, val_le hle.right e2]; first | exact ⟨h, rfl⟩ | exact ⟨h, trivial⟩
  | fnv f a b =>
    simp only [step] at h ⊢
    cases e : vals τ a with
    | none => simp [e] at h
    | some u => cases e2 : vals τ b with
      | none => rw [e, e2] at h; simp at h
      | some v => rw [e, e2] at h; rw [vals_le hle.left e, vals_le hle.right e2]; first | exact ⟨h, rfl⟩ | exact ⟨h, trivial⟩
  | mpu c m k v =>
    simp only [step] at h ⊢
    cases e : val τ m with
    | none => simp [e] at h
    | some x =>
      cases e2 : val τ k with
      | none => rw [e, e2] at h; simp at h
      | some y =>
        cases e3 : val τ v with
        | none => rw [e, e2, e3] at h; cases x <;> cases y <;> simp at h
        | some z =>
          have ii := idsOf_le hle.left e
          simp only [rd] at hH ⊢
          rw [ii.1] at hH ⊢
          rw [ii.2]
          rw [e, e2, e3] at h
          rw [val_le hle.left e, val_le hle.right.left e2, val_le hle.right.right e3]
          first | refine ⟨?_, rfl⟩ | refine ⟨?_, trivial⟩
          cases x with
          | mp i => cases y with
            | d y => cases z with
              | d z => simp only [hH i (by simp [ids])] at h; exact h
              | _ => exact h
            | _ => exact h
          | _ => exact h
  | lkp c z m k ok =>
    simp only [step] at h ⊢
    cases e : val τ m with
    | none => simp [e] at h
    | some x =>
      cases e2 : val τ k with
      | none => rw [e, e2] at h; simp at h
      | some y =>
        have ii := idsOf_le hle.left e
        simp only [rd] at hH ⊢
        rw [ii.1] at hH ⊢
        rw [ii.2]
        rw [e, e2] at h
        rw [val_le hle.left e, val_le hle.right e2]
        first | refine ⟨?_, rfl⟩ | refine ⟨?_, trivial⟩
        cases y with
        | d y => cases x with
          | mp i => simp only [hH i (by simp [ids])] at h; exact h
          | d q => cases q <;> exact h
          | _ => exact h
        | _ => exact h
  | fa x off | not x | neg k x | cvi k x | ifc t x | ext x i | slen x | nck x | fld n x off =>
    simp only [step] at h ⊢
    cases e : val τ x with
    | none => simp [e] at h
    | some v => rw [e] at h; rw [val_le hle e]; first | exact ⟨h, rfl⟩ | exact ⟨h, trivial⟩
  | bin b x y | bit b x y | ixs x y | ixr len sz x y | ixv n len sz x y | mn x y | mx x y =>
    simp only [step] at h ⊢
    cases e : val τ x with
    | none => simp [e] at h
    | some u =>
      cases e2 : val τ y with
      | none => rw [e, e2] at h; first | (simp at h; done) | (cases u <;> simp at h)
      | some v => rw [e, e2] at h; rw [val_le hle.left e, val_le hle.right e2]; first | exact ⟨h, rfl⟩ | exact ⟨h, trivial⟩
end
end Av

namespace Av
open Go
variable [Glb] [Rls]

/-- what an operation has done -/
structure En where
  dst : Option Nat
  v : Av
  ups : List (Nat × Obj)
  lk : List Nat
  nd : List Nat

def setT (τ : Tmps) (e : En) : Tmps := match e.dst with
  | some d => upd τ d (some e.v)
  | none => τ
def setH (H : Heap) (e : En) : Heap := hputs H e.ups

structure SatF (N : Nat) (τ : Tmps) (H : Heap) (a : Act) (w : World) (β : Blocks) (A : Nat → Prop) : Prop where
  core : Core β A w H
  tmps : TRep β A w H τ a
  size : a.tmps.size = N

/-- a guard's temporary -/
def gT (ops : Array Oper) : Option (Nat × Bool) → List Nat
  | none => []
  | some (j, _) => ((ops[j]?).bind (·.dst)).toList

def GdOn (ops : Array Oper) (τ : Tmps) : Option (Nat × Bool) → Prop
  | none => True
  | some (j, b) => ∃ c, (ops[j]?).bind (·.dst) = some c ∧ τ c = some (.d (.bool b))

def notB (b : Bool) (v : Av) : Prop := v = .und ∨ ∃ x, v = .d (.bool x) ∧ x ≠ b

inductive Do (P : Program) (N : Nat) (ops : Array Oper) (o : Oper) (τ : Tmps) (H : Heap) : En → Prop
  | op (io r nd) (hg : GdOn ops τ o.guard) (hgn : ∀ t ∈ gT ops o.guard, t ∈ nd) (hio : trOp P o = some io) (hd : dstOk N o.dst = true) (hn : ∀ t ∈ tI io, t ∈ nd) (hs : step τ H (o.dst.getD 0) io = some r) (hc : r.c) :
      Do P N ops o τ H ⟨o.dst, r.v, r.ups, rd τ (o.dst.getD 0) io, nd⟩
  | call (f : Cal) (xs : List Opd) (g args argTypes) (f' : Cee) (vs : List Av) (T : List (Nat × Option Obj)) (v ups nd) (hg : GdOn ops τ o.guard) (hgn : ∀ t ∈ gT ops o.guard, t ∈ nd)
      (ho : o.op = .call { callee := .value g, args, argTypes }) (hcal : trCal P g = some f) (hxs : allSome ((args.toList.zip argTypes.toList).map fun (x, t) => opd P t x) = some xs) (hsz : args.size = argTypes.size)
      (hd : dstOk N o.dst = true) (hn : ∀ t ∈ xs.flatMap tO, t ∈ nd) (hn' : ∀ x, f = .dyn x → ∀ t ∈ tO x, t ∈ nd) (ht : target τ f xs = some (f', vs)) (hc : CallOK P f' vs T v ups) (hT : tgets H T) :
      Do P N ops o τ H ⟨o.dst, v, ups, T.map (·.1), nd⟩
  | pick (c : Nat) (x y : Operand) (z : Opd) (d : Nat) (b : Bool) (v : Bool) (nd) (hg : GdOn ops τ o.guard) (hgn : ∀ t ∈ gT ops o.guard, t ∈ nd) (ho : o.op = .pick (.tmp c) x y) (hdst : o.dst = some d) (hd : d < N)
      (hc : τ c = some (.d (.bool b))) (hz : opd P 0 (if b then x else y) = some z) (hv : val τ z = some (.d (.bool v))) (hnc : c ∈ nd) (hn : ∀ t ∈ tO z, t ∈ nd) :
      Do P N ops o τ H ⟨some d, .d (.bool v), [], [], nd⟩
  | skip (j : Nat) (b : Bool) (c : Nat) (v : Av) (nd) (hg : o.guard = some (j, b)) (hj : (ops[j]?).bind (·.dst) = some c) (hd : dstOk N o.dst = true) (hc : τ c = some v) (hv : notB b v) (hnc : c ∈ nd) :
      Do P N ops o τ H ⟨o.dst, .und, [], [], nd⟩

section
variable {P : Program} {N : Nat} {ops : Array Oper} {o : Oper} {τ τ' : Tmps} {H H' : Heap} {e : En} {β : Blocks} {A : Nat → Prop} {w : World} {a : Act} {ro : Option Nat} {n : Nat} {Q : Exit → Act → World → Prop}

theorem GdOn.le {nd : List Nat} {g : Option (Nat × Bool)} (h : GdOn ops τ g) (hn : ∀ t ∈ gT ops g, t ∈ nd) (hle : LeOn nd τ τ') : GdOn ops τ' g := by
  cases g with
  | none => trivial
  | some p =>
    obtain ⟨j, b⟩ := p
    obtain ⟨c, h1, h2⟩ := h
    exact ⟨c, h1, hle c (hn c (by simp [gT, h1])) _ h2⟩

theorem target_le {f : Cal} {xs : List Opd} {r : Cee × List Av} {nd : List Nat} (h : target τ f xs = some r) (hn : ∀ t ∈ xs.flatMap tO, t ∈ nd) (hn' : ∀ x, f = .dyn x → ∀ t ∈ tO x, t ∈ nd) (hle : LeOn nd τ τ') : target τ' f xs = some r := by
  unfold target at h ⊢
  cases e : vals τ xs with
  | none => simp [e] at h
  | some vs =>
    rw [vals_le (fun t ht => hle t (hn t ht)) e]
    simp only [e] at h ⊢
    unfold targetV at h ⊢
    cases f with
    | fn f => exact h
    | dyn x =>
      simp only at h ⊢
      cases e2 : val τ x with
      | none => simp [e2] at h
      | some v => rw [e2] at h; rw [val_le (fun t ht => hle t (hn' x rfl t ht)) e2]; exact h

theorem tgets_eq : ∀ {T : List (Nat × Option Obj)}, tgets H T → (∀ x ∈ T.map (·.1), H x = H' x) → tgets H' T
  | [], _, _ => trivial
  | e :: r, h, he => ⟨by rw [← he e.1 (by simp)]; exact h.1, tgets_eq h.2 fun x hx => he x (by simp only [List.map_cons, List.mem_cons]; exact .inr hx)⟩

/-- an operation does the same in a state that agrees on what it needs -/
theorem Do.le (h : Do P N ops o τ H e) (hle : LeOn e.nd τ τ') (hH : ∀ x ∈ e.lk, H x = H' x) : Do P N ops o τ' H' e := by
  cases h with
  | op io r nd hg hgn hio hd hn hs hc =>
    obtain ⟨s1, s2⟩ := step_le (τ' := τ') (H' := H') hs (fun t ht => hle t (hn t ht)) hH
    have := Do.op (H := H') io r nd (hg.le hgn hle) hgn hio hd hn s1 hc
    rwa [s2] at this
  | call f xs g args argTypes f' vs T v ups nd hg hgn ho hcal hxs hsz hd hn hn' ht hc hT =>
    exact .call f xs g args argTypes f' vs T v ups nd (hg.le hgn hle) hgn ho hcal hxs hsz hd hn hn' (target_le ht hn hn' hle) hc (tgets_eq hT hH)
  | pick c x y z d b v nd hg hgn ho hdst hd hc hz hv hnc hn =>
    exact .pick c x y z d b v nd (hg.le hgn hle) hgn ho hdst hd (hle c hnc _ hc) hz (val_le (fun t ht => hle t (hn t ht)) hv) hnc hn
  | skip j b c v nd hg hj hd hc hv hnc =>
    exact .skip j b c v nd hg hj hd (hle c hnc _ hc) hv hnc

theorem SatF.put {u : Value} {β' : Blocks} {A' : Nat → Prop} {w' : World} (hs : SatF N τ H a w β A) (hd : dstOk N e.dst = true) (st1 : Stp β A w H β' A' w' (setH H e)) (hv : VRep β' A' w' (setH H e) e.v u) :
    SatF N (setT τ e) (setH H e) (a.put e.dst u) w' β' A' := by
  refine ⟨st1.core, ?_, by rw [put_size]; exact hs.size⟩
  intro t c hc
  unfold setT at hc
  cases hde : e.dst with
  | none =>
    rw [hde] at hc
    obtain ⟨u', h1, h2⟩ := hs.tmps t c hc
    exact ⟨u', h1, st1.vals _ _ h2⟩
  | some d =>
    simp only [hde, upd] at hc
    rw [hde] at hd
    split at hc
    · rename_i e'
      cases hc
      subst e'
      exact ⟨u, put_at a _ u (by simp only [dstOk, decide_eq_true_eq] at hd; rw [hs.size]; exact hd), hv⟩
    · rename_i e'
      obtain ⟨u', h1, h2⟩ := hs.tmps t c hc
      exact ⟨u', by rw [put_get _ _ _ _ (by simpa using e')]; exact h1, st1.vals _ _ h2⟩

theorem GdOn.wanted (hs : SatF N τ H a w β A) (h : GdOn ops τ o.guard) : Region.wanted o (yielded ops a.tmps) = true := by
  cases hg : o.guard with
  | none => exact wanted_none hg _
  | some p =>
    obtain ⟨j, b⟩ := p
    rw [hg] at h
    obtain ⟨c, h1, h2⟩ := h
    obtain ⟨u, g1, g2⟩ := hs.tmps c _ h2
    have := g2.of_d
    cases this
    rw [wanted_some hg, yielded_at h1 g1]
    simp

/-- the machine does what is said -/
theorem Do.ok (h : Do P N ops o τ H e) (hs : SatF N τ H a w β A) {i : Nat} (hi : ops[i]? = some o) {K : Act → World → Prop}
    (hk : ∀ a' w' β' A', Stp β A w H β' A' w' (setH H e) → SatF N (setT τ e) (setH H e) a' w' β' A' → a'.defers = a.defers → K a' w') : wpOpIn (FW ro) n P ops Q i K a w := by
  unfold wpOpIn
  simp only [hi]
  cases h with
  | op io r nd hg hgn hio hd hn hst hc =>
    simp only [hg.wanted hs, if_true, Oper.wpIn]
    refine ⟨fun _ _ => trivial, ?_⟩
    rw [Oper.semAt_eq ro a.eval o (trOp_defer hio)]
    obtain ⟨u, β', A', w', hrun, st1, hv⟩ := trOp_ok hs.core hs.tmps hio hst hc
    have := hk (a.put o.dst u) w' β' A' st1 (SatF.put (e := ⟨o.dst, r.v, r.ups, rd τ (o.dst.getD 0) io, nd⟩) hs hd st1 hv) (put_defers _ _ _)
    rcases hrun with hrun | ⟨hrun, rfl⟩
    · rw [hrun]; exact this
    · rw [hrun]; exact this
  | call f xs g args argTypes f' vs T v ups nd hg hgn ho hcal hxs hsz hd hn hn' ht hc hT =>
    simp only [hg.wanted hs, if_true]
    refine call_run hs.core hs.tmps ho hcal hxs hsz ht hc hT ?_
    intro u w' β' A' st1 hv
    exact hk _ w' β' A' st1 (SatF.put (e := ⟨o.dst, v, ups, T.map (·.1), nd⟩) hs hd st1 hv) (put_defers _ _ _)
  | pick c x y z d b v nd hg hgn ho hdst hd hc hz hv hnc hn =>
    simp only [hg.wanted hs, if_true, Oper.wpIn]
    refine ⟨fun _ _ => trivial, ?_⟩
    have hc1 : a.eval (.tmp c) = .bool b := by
      obtain ⟨u, g1, g2⟩ := hs.tmps c _ hc
      have := g2.of_d
      cases this
      simp [Act.eval, Array.getD_eq_getD_getElem?, g1]
    have hz1 : (if b then a.eval x else a.eval y) = .bool v := by
      have := (opd_ok hz hv hs.tmps).of_d
      have e1 : a.eval (if b then x else y) = if b then a.eval x else a.eval y := by cases b <;> rfl
      rw [e1] at this
      generalize (if b then a.eval x else a.eval y) = u at this
      cases this
      rfl
    have hrun : (execOp a.eval o).run P w = .ok (.value (.bool v)) w := by
      simp only [execOp, ho, Sem.run_bind, hc1, asBool, Sem.run_pure, Result.andThen_ok]
      rw [← hz1]
    rw [Oper.semAt_eq ro a.eval o (by intro c hc; rw [ho] at hc; cases hc), hrun]
    simp only [Oper.uponIn]
    refine hk _ w β A (Stp.refl hs.core) ?_ (put_defers _ _ _)
    rw [hdst]
    exact SatF.put (e := ⟨some d, .d (.bool v), [], [], nd⟩) hs (by simp [dstOk, hd]) (Stp.refl hs.core) (.d _ _ (.bool _))
  | skip j b c v nd hg hj hd hc hv hnc =>
    obtain ⟨u, g1, g2⟩ := hs.tmps c _ hc
    have hnw : Region.wanted o (yielded ops a.tmps) = false := by
      rw [wanted_some hg, yielded_at hj g1]
      rcases hv with rfl | ⟨x, rfl, hx⟩
      · cases g2; simp [undef]
      · have := g2.of_d; cases this; simpa using hx
    simp only [hnw, Bool.false_eq_true, if_false]
    refine ⟨fun _ _ => trivial, hk _ w β A (Stp.refl hs.core) ?_ (put_defers _ _ _)⟩
    exact SatF.put (e := ⟨o.dst, .und, [], [], nd⟩) hs hd (Stp.refl hs.core) .und
end
end Av

namespace Av
open Go
variable [Glb] [Rls]

/-- the entries of a list whose places are listed -/
def sel (L : Nat → Bool) : List En → Nat → List En
  | [], _ => []
  | e :: r, k => if L k then e :: sel L r (k + 1) else sel L r (k + 1)

def foldT (τ : Tmps) (E : List En) : Tmps := E.foldl setT τ
def foldH (H : Heap) (E : List En) : Heap := E.foldl setH H

def wT (t : Nat) (e : En) : Bool := e.dst == some t
def wH (x : Nat) (e : En) : Bool := (e.ups.map (·.1)).contains x

theorem setT_other {τ : Tmps} {e : En} {t : Nat} (h : wT t e = false) : setT τ e t = τ t := by
  unfold setT wT at *
  cases hd : e.dst with
  | none => rfl
  | some d =>
    rw [hd] at h
    simp only [upd]
    rw [if_neg]
    intro e'
    subst e'
    simp at h

theorem setT_at {τ : Tmps} {e : En} {t : Nat} (h : wT t e = true) : setT τ e t = some e.v := by
  unfold setT wT at *
  have hd : e.dst = some t := by simpa using h
  rw [hd]
  simp [upd]

theorem setH_other {H : Heap} {e : En} {x : Nat} (h : wH x e = false) : setH H e x = H x := by
  refine hputs_other _ _ _ ?_
  intro u hu hx
  simp only [wH, List.contains_eq_mem, decide_eq_false_iff_not] at h
  exact h (List.mem_map.2 ⟨u, hu, hx⟩)

theorem hputs_in : ∀ (ups : List (Nat × Obj)) (H H' : Heap) (x : Nat), x ∈ ups.map (·.1) → hputs H ups x = hputs H' ups x
  | [], _, _, _, h => by cases h
  | (i, o) :: r, H, H', x, h => by
    simp only [hputs]
    by_cases hx : x ∈ r.map (·.1)
    · exact hputs_in r _ _ x hx
    · have : x = i := by simpa [hx] using h
      subst this
      refine hputs_eq r ?_
      simp [upd]

theorem setH_at {H H' : Heap} {e : En} {x : Nat} (h : wH x e = true) : setH H e x = setH H' e x :=
  hputs_in _ _ _ _ (by simpa [wH] using h)

theorem foldT_filter (t : Nat) : ∀ (E : List En) (τ τ' : Tmps), τ t = τ' t → foldT τ E t = foldT τ' (E.filter (wT t)) t
  | [], _, _, h => h
  | e :: r, τ, τ', h => by
    cases hw : wT t e with
    | true =>
      rw [List.filter_cons_of_pos hw]
      exact foldT_filter t r _ _ (by simp only [setT_at hw])
    | false =>
      rw [List.filter_cons_of_neg (by simp [hw])]
      exact foldT_filter t r _ _ (by rw [setT_other hw]; exact h)

theorem foldH_filter (x : Nat) : ∀ (E : List En) (H H' : Heap), H x = H' x → foldH H E x = foldH H' (E.filter (wH x)) x
  | [], _, _, h => h
  | e :: r, H, H', h => by
    cases hw : wH x e with
    | true =>
      rw [List.filter_cons_of_pos hw]
      exact foldH_filter x r _ _ (setH_at hw)
    | false =>
      rw [List.filter_cons_of_neg (by simp [hw])]
      exact foldH_filter x r _ _ (by rw [setH_other hw]; exact h)

theorem sel_filter (p : En → Bool) {L L' : Nat → Bool} : ∀ (E : List En) (k : Nat), (∀ (j : Nat) e, E[j]? = some e → p e = true → L (k + j) = L' (k + j)) → (sel L E k).filter p = (sel L' E k).filter p
  | [], _, _ => rfl
  | e :: r, k, h => by
    have ih := sel_filter p (L := L) (L' := L') r (k + 1) fun j e' he hp => by have := h (j + 1) e' (by simpa using he) hp; rwa [show k + (j + 1) = k + 1 + j by omega] at this
    simp only [sel]
    cases hp : p e with
    | true =>
      have h0 := h 0 e rfl hp
      rw [Nat.add_zero] at h0
      rw [h0]
      split
      · rw [List.filter_cons_of_pos hp, List.filter_cons_of_pos hp, ih]
      · exact ih
    | false =>
      have hn : ¬ p e = true := by simp [hp]
      have e1 : ∀ X, (e :: X).filter p = X.filter p := fun X => List.filter_cons_of_neg hn
      split <;> split <;> (try simp only [e1]) <;> exact ih

theorem foldT_sel {τ : Tmps} {E : List En} {L L' : Nat → Bool} {t : Nat} (h : ∀ (j : Nat) e, E[j]? = some e → wT t e = true → L j = L' j) : foldT τ (sel L E 0) t = foldT τ (sel L' E 0) t :=
  (foldT_filter t (sel L E 0) τ τ rfl).trans ((congrArg (fun l => foldT τ l t) (sel_filter (wT t) E 0 (fun j e he hp => by rw [Nat.zero_add]; exact h j e he hp))).trans (foldT_filter t (sel L' E 0) τ τ rfl).symm)
theorem foldH_sel {H : Heap} {E : List En} {L L' : Nat → Bool} {x : Nat} (h : ∀ (j : Nat) e, E[j]? = some e → wH x e = true → L j = L' j) : foldH H (sel L E 0) x = foldH H (sel L' E 0) x :=
  (foldH_filter x (sel L E 0) H H rfl).trans ((congrArg (fun l => foldH H l x) (sel_filter (wH x) E 0 (fun j e he hp => by rw [Nat.zero_add]; exact h j e he hp))).trans (foldH_filter x (sel L' E 0) H H rfl).symm)

theorem sel_lt : ∀ (E : List En) (i k : Nat), sel (fun j => decide (j < i)) E k = E.take (i - k)
  | [], i, k => by simp [sel]
  | e :: r, i, k => by
    simp only [sel, sel_lt r i (k + 1)]
    by_cases h : k < i
    · have : i - k = (i - (k + 1)) + 1 := by omega
      rw [this, List.take_succ_cons]
      simp [h]
    · have h1 : i - k = 0 := by omega
      have h2 : i - (k + 1) = 0 := by omega
      simp [h, h1, h2]

theorem sel_none {L : Nat → Bool} : ∀ (E : List En) (k : Nat), (∀ j e, E[j]? = some e → L (k + j) = false) → sel L E k = []
  | [], _, _ => rfl
  | e :: r, k, h => by
    have h0 := h 0 e rfl
    rw [Nat.add_zero] at h0
    simp only [sel, h0]
    exact sel_none r (k + 1) fun j e' he => by have := h (j + 1) e' (by simpa using he); rwa [show k + (j + 1) = k + 1 + j by omega] at this

/-- one more place is listed: the last of those that write t -/
theorem foldT_last {τ : Tmps} {L : Nat → Bool} {t : Nat} : ∀ (E : List En) (k i : Nat) (e : En), E[i]? = some e → wT t e = true → L (k + i) = true → (∀ j e', E[j]? = some e' → wT t e' = true → i < j → L (k + j) = false) →
    foldT τ (sel L E k) t = some e.v
  | [], _, _, _, h, _, _, _ => by simp at h
  | e0 :: r, k, 0, e, h, hw, hL, hn => by
    simp only [List.getElem?_cons_zero, Option.some.injEq] at h
    subst h
    rw [Nat.add_zero] at hL
    simp only [sel, hL, if_true]
    show foldT (setT τ e0) (sel L r (k + 1)) t = _
    rw [foldT_filter t _ _ (fun _ => some e0.v) (setT_at hw)]
    have : (sel L r (k + 1)).filter (wT t) = (sel (fun _ => false) r (k + 1)).filter (wT t) := sel_filter _ _ _ fun j e' he hp => by
      have := hn (j + 1) e' (by simpa using he) hp (by omega)
      rwa [show k + (j + 1) = k + 1 + j by omega] at this
    rw [this, sel_none r (k + 1) (fun _ _ _ => rfl)]
    rfl
  | e0 :: r, k, i + 1, e, h, hw, hL, hn => by
    have ih := fun τ => foldT_last (τ := τ) (L := L) r (k + 1) i e (by simpa using h) hw (by rwa [show k + (i + 1) = k + 1 + i by omega] at hL) (fun j e' he hp hj => by
      have := hn (j + 1) e' (by simpa using he) hp (by omega)
      rwa [show k + (j + 1) = k + 1 + j by omega] at this)
    simp only [sel]
    split
    · exact ih _
    · exact ih _

theorem foldH_last {H H' : Heap} {L : Nat → Bool} {x : Nat} : ∀ (E : List En) (k i : Nat) (e : En), E[i]? = some e → wH x e = true → L (k + i) = true → (∀ j e', E[j]? = some e' → wH x e' = true → i < j → L (k + j) = false) →
    foldH H (sel L E k) x = setH H' e x
  | [], _, _, _, h, _, _, _ => by simp at h
  | e0 :: r, k, 0, e, h, hw, hL, hn => by
    simp only [List.getElem?_cons_zero, Option.some.injEq] at h
    subst h
    rw [Nat.add_zero] at hL
    simp only [sel, hL, if_true]
    show foldH (setH H e0) (sel L r (k + 1)) x = _
    rw [foldH_filter x _ _ (setH H' e0) (setH_at hw)]
    have : (sel L r (k + 1)).filter (wH x) = (sel (fun _ => false) r (k + 1)).filter (wH x) := sel_filter _ _ _ fun j e' he hp => by
      have := hn (j + 1) e' (by simpa using he) hp (by omega)
      rwa [show k + (j + 1) = k + 1 + j by omega] at this
    rw [this, sel_none r (k + 1) (fun _ _ _ => rfl)]
    rfl
  | e0 :: r, k, i + 1, e, h, hw, hL, hn => by
    have ih := fun H => foldH_last (H := H) (H' := H') (L := L) r (k + 1) i e (by simpa using h) hw (by rwa [show k + (i + 1) = k + 1 + i by omega] at hL) (fun j e' he hp hj => by
      have := hn (j + 1) e' (by simpa using he) hp (by omega)
      rwa [show k + (j + 1) = k + 1 + j by omega] at this)
    simp only [sel]
    split
    · exact ih _
    · exact ih _

def Dn (ops : List Oper) (L : Nat → Bool) : Prop := ∀ i o, ops[i]? = some o → L i = true → ∀ j ∈ direct o, L j = true

theorem closure_ok {all : List Oper} : ∀ (ops : List Oper) (acc : List (List Nat)), (∃ pre, all = pre ++ ops ∧ pre.length = acc.length) →
    (∀ k l, acc[k]? = some l → ∀ j ∈ l, ∀ L, Dn all L → L k = true → L j = true) →
    ∀ k l, (closure ops acc)[k]? = some l → ∀ j ∈ l, ∀ L, Dn all L → L k = true → L j = true
  | [], acc, _, h => h
  | o :: r, acc, ⟨pre, hp, hl⟩, h => by
    refine closure_ok r _ ⟨pre ++ [o], by rw [hp]; simp, by simp [hl]⟩ ?_
    intro k l hk j hj L hd hL
    by_cases hlt : k < acc.length
    · rw [List.getElem?_append_left hlt] at hk
      exact h k l hk j hj L hd hL
    · rw [List.getElem?_append_right (by omega)] at hk
      have hk0 : k - acc.length = 0 := by
        by_cases h0 : k - acc.length = 0
        · exact h0
        · rw [List.getElem?_eq_none (by simp; omega)] at hk; cases hk
      rw [hk0] at hk
      simp only [List.getElem?_cons_zero, Option.some.injEq] at hk
      subst hk
      have hko : all[k]? = some o := by rw [hp, List.getElem?_append_right (by omega), show k - pre.length = 0 by omega]; rfl
      have hj2 := (List.mem_filter.1 hj).2
      rw [Bool.or_eq_true] at hj2
      rcases hj2 with hj | hj
      · exact hd k o hko hL j (by simpa using hj)
      · obtain ⟨j', hj', hjj⟩ := List.any_eq_true.1 hj
        have hL' := hd k o hko hL j' hj'
        cases ha : acc[j']? with
        | none => simp [List.getD_eq_getElem?_getD, ha] at hjj
        | some l' =>
          rw [List.getD_eq_getElem?_getD, ha] at hjj
          exact h j' l' ha j (by simpa using hjj) L hd hL'

/-- an entry is what its operation may be, within its log -/
structure Al (f : Fo) (g : List Nat × List Nat) (e : En) : Prop where
  dst : e.dst = f.dst
  nd : e.nd = f.nd
  lk : ∀ x ∈ e.lk, x ∈ g.1
  ups : ∀ x ∈ e.ups.map (·.1), x ∈ g.2
  c0 : f.cls = 0 → e.lk = [] ∧ e.ups = []
  c1 : f.cls ≤ 1 → e.ups = []

theorem nomeet_ok {a b : List Nat} (h : nomeet a b = true) {x : Nat} (ha : x ∈ a) (hb : x ∈ b) : False := by
  simp only [nomeet, List.all_eq_true] at h
  have := h x ha
  simp [hb] at this

theorem apartAll_ok {lg : Log} : ∀ {un : List (Nat × Nat)}, apartAll lg un = true → ∀ i j, (i, j) ∈ un → apartL (lg.getD i ([], [])) (lg.getD j ([], [])) = true
  | [], _, _, _, h => by cases h
  | (a, b) :: r, h, i, j, hm => by
    simp only [apartAll, Bool.and_eq_true] at h
    rcases List.mem_cons.1 hm with e | hm
    · cases e; exact h.1
    · exact apartAll_ok h.2 i j hm

section
variable {P : Program} {N : Nat} {ops : Array Oper} {β : Blocks} {A : Nat → Prop} {w : World} {a : Act} {ro : Option Nat} {n : Nat} {Q : Exit → Act → World → Prop}

theorem any_ok {E : List En} {fs : List Fo} {lg : Log} {un : List (Nat × Nat)} {τ : Tmps} {H : Heap} (hlE : E.length = ops.size) (hlf : fs.length = ops.size) (hlg : lg.length = ops.size)
    (hdo : ∀ (i : Nat) o e, ops[i]? = some o → E[i]? = some e → Do P N ops o (foldT τ (E.take i)) (foldH H (E.take i)) e) (hal : ∀ (i : Nat) f g e, fs[i]? = some f → lg[i]? = some g → E[i]? = some e → Al f g e)
    (hsep : sepOK (closure ops.toList []) fs un = true) (hed : edgesOK ops.toList = true) (hap : apartAll lg un = true) {β0 : Blocks} {A0 : Nat → Prop} {w0 : World} {ds : List Deferred}
    (hk : ∀ a w β A, SatF N (foldT τ E) (foldH H E) a w β A → Stp β0 A0 w0 H β A w (foldH H E) → a.defers = ds → Q .normal a w) :
    ∀ (fuel : Nat) (listed : Array Bool) (a : Act) (w : World) (β : Blocks) (A : Nat → Prop), listed.size = ops.size → Dn ops.toList (fun i => listed.getD i false) → ((List.range ops.size).filter fun i => !listed.getD i false).length ≤ fuel →
      SatF N (foldT τ (sel (fun i => listed.getD i false) E 0)) (foldH H (sel (fun i => listed.getD i false) E 0)) a w β A → Stp β0 A0 w0 H β A w (foldH H (sel (fun i => listed.getD i false) E 0)) → a.defers = ds →
      wpAnyIn (FW ro) n P .any ops Q fuel listed a w := by
  -- how two operations stand
  have sep : ∀ (L : Nat → Bool), Dn ops.toList L → ∀ i j, i < j → j < ops.size → L i = false → L j = true → ∀ ei ej, E[i]? = some ei → E[j]? = some ej →
      (∀ d, ei.dst = some d → d ∉ ej.nd) ∧ (∀ d, ej.dst = some d → d ∉ ei.nd) ∧ (∀ d, ei.dst = some d → ej.dst ≠ some d) ∧ (∀ x ∈ ei.lk, x ∉ ej.ups.map (·.1)) ∧ (∀ x ∈ ei.ups.map (·.1), x ∉ ej.lk) ∧ (∀ x ∈ ei.ups.map (·.1), x ∉ ej.ups.map (·.1)) := by
    intro L hd i j hij hj hLi hLj ei ej hei hej
    have hfi : fs[i]? = some (fs[i]'(by omega)) := by simp [show i < fs.length by omega]
    have hfj : fs[j]? = some (fs[j]'(by omega)) := by simp [show j < fs.length by omega]
    have hgi : lg[i]? = some (lg[i]'(by omega)) := by simp [show i < lg.length by omega]
    have hgj : lg[j]? = some (lg[j]'(by omega)) := by simp [show j < lg.length by omega]
    have ai := hal i _ _ ei hfi hgi hei
    have aj := hal j _ _ ej hfj hgj hej
    simp only [sepOK, List.all_eq_true, List.mem_range] at hsep
    have h1 := hsep j (by omega) i hij
    rw [Bool.or_eq_true] at h1
    rcases h1 with h1 | h1
    · exfalso
      have hmem : i ∈ (closure ops.toList []).getD j [] := by simpa using h1
      cases hcl : (closure ops.toList [])[j]? with
      | none => simp [List.getD_eq_getElem?_getD, hcl] at hmem
      | some l =>
        rw [List.getD_eq_getElem?_getD, hcl] at hmem
        have := closure_ok ops.toList [] ⟨[], rfl, rfl⟩ (by simp) j l hcl i hmem L hd hLj
        rw [hLi] at this
        cases this
    · simp only [sep2, List.getD_eq_getElem?_getD, hfi, hfj, Option.getD_some, Bool.and_eq_true, Bool.or_eq_true, decide_eq_true_eq, beq_iff_eq] at h1
      obtain ⟨⟨⟨q1, q2⟩, q3⟩, q4⟩ := h1
      refine ⟨?_, ?_, ?_, ?_⟩
      · intro d hd'; rw [ai.dst] at hd'; rw [aj.nd]; rw [hd'] at q1; simpa using q1
      · intro d hd'; rw [aj.dst] at hd'; rw [ai.nd]; rw [hd'] at q2; simpa using q2
      · intro d hd' hd2; rw [ai.dst] at hd'; rw [aj.dst] at hd2; rw [hd', hd2] at q3; simp at q3
      · have hun : apartL (lg[i]'(by omega)) (lg[j]'(by omega)) = true ∨ ei.lk = [] ∧ ei.ups = [] ∨ ej.lk = [] ∧ ej.ups = [] ∨ ei.ups = [] ∧ ej.ups = [] := by
          rcases q4 with ((q4 | q4) | q4) | q4
          · exact .inr (.inl (ai.c0 q4))
          · exact .inr (.inr (.inl (aj.c0 q4)))
          · exact .inr (.inr (.inr ⟨ai.c1 q4.1, aj.c1 q4.2⟩))
          · have := apartAll_ok hap i j (by simpa using q4)
            simp only [List.getD_eq_getElem?_getD, hgi, hgj, Option.getD_some] at this
            exact .inl this
        rcases hun with h | ⟨h, h'⟩ | ⟨h, h'⟩ | ⟨h, h'⟩
        · simp only [apartL, Bool.and_eq_true] at h
          obtain ⟨⟨r1, r2⟩, r3⟩ := h
          exact ⟨fun x hx hy => nomeet_ok r3 (ai.lk x hx) (aj.ups x hy), fun x hx hy => nomeet_ok r1 (ai.ups x hx) (aj.lk x hy), fun x hx hy => nomeet_ok r2 (ai.ups x hx) (aj.ups x hy)⟩
        · rw [h, h']; simp
        · rw [h, h']; simp
        · rw [h, h']; simp
  -- what operation i needs is as in the text's order
  have step1 : ∀ (L : Nat → Bool), Dn ops.toList L → ∀ i ei, E[i]? = some ei → L i = false → (∀ o, ops[i]? = some o → ∀ j ∈ direct o, L j = true) →
      LeOn ei.nd (foldT τ (E.take i)) (foldT τ (sel L E 0)) ∧ (∀ x ∈ ei.lk, foldH H (E.take i) x = foldH H (sel L E 0) x) ∧
      (∀ j ej, E[j]? = some ej → i < j → L j = true → (∀ d, ei.dst = some d → ej.dst ≠ some d) ∧ ∀ x ∈ ei.ups.map (·.1), x ∉ ej.ups.map (·.1)) := by
    intro L hd i ei hei hLi hrd
    have hiS : i < ops.size := by rw [← hlE]; exact (List.getElem?_eq_some_iff.1 hei).1
    -- with i listed too
    have hd' : Dn ops.toList (fun j => if j = i then true else L j) := by
      intro k o hk hLk j hj
      by_cases e : j = i
      · simp [e]
      · simp only [e, if_false]
        by_cases ek : k = i
        · subst ek; exact hrd o (by simpa using hk) j hj
        · simp only [ek, if_false] at hLk; exact hd k o hk hLk j hj
    have before : ∀ (j : Nat) ej, E[j]? = some ej → j < i → L j = false → (∀ d, ej.dst = some d → d ∉ ei.nd) ∧ ∀ x ∈ ei.lk, x ∉ ej.ups.map (·.1) := by
      intro j ej hej hji hLj
      obtain ⟨r1, r2, r3, r4, r5, r6⟩ := sep (fun j => if j = i then true else L j) hd' j i hji hiS (by simp [show j ≠ i by omega, hLj]) (by simp) ej ei hej hei
      exact ⟨r1, fun x hx hy => r5 x hy hx⟩
    have after : ∀ (j : Nat) ej, E[j]? = some ej → i < j → L j = true → (∀ d, ej.dst = some d → d ∉ ei.nd) ∧ (∀ x ∈ ei.lk, x ∉ ej.ups.map (·.1)) ∧ (∀ d, ei.dst = some d → ej.dst ≠ some d) ∧ ∀ x ∈ ei.ups.map (·.1), x ∉ ej.ups.map (·.1) := by
      intro j ej hej hij hLj
      obtain ⟨r1, r2, r3, r4, r5, r6⟩ := sep L hd i j hij (by rw [← hlE]; exact (List.getElem?_eq_some_iff.1 hej).1) hLi hLj ei ej hei hej
      exact ⟨r2, r4, r3, r6⟩
    have agree : ∀ (j : Nat) ej, E[j]? = some ej → ((∃ t ∈ ei.nd, ej.dst = some t) ∨ ∃ x ∈ ei.lk, x ∈ ej.ups.map (·.1)) → decide (j < i) = L j := by
      intro j ej hej hw
      by_cases hji : j < i
      · cases hLj : L j with
        | true => simp [hji]
        | false =>
          exfalso
          obtain ⟨r1, r2⟩ := before j ej hej hji hLj
          rcases hw with ⟨t, h1, h2⟩ | ⟨x, h1, h2⟩
          · exact r1 t h2 h1
          · exact r2 x h1 h2
      · by_cases hji' : j = i
        · subst hji'; simp [hLi]
        · cases hLj : L j with
          | false => simp [hji]
          | true =>
            exfalso
            obtain ⟨r1, r2, _, _⟩ := after j ej hej (by omega) hLj
            rcases hw with ⟨t, h1, h2⟩ | ⟨x, h1, h2⟩
            · exact r1 t h2 h1
            · exact r2 x h1 h2
    have htake : E.take i = sel (fun j => decide (j < i)) E 0 := by rw [sel_lt]; rfl
    refine ⟨?_, ?_, fun j ej hej hij hLj => (after j ej hej hij hLj).2.2⟩
    · intro t ht v hv
      rw [htake, foldT_sel (L' := L) (fun j ej hej hw => agree j ej hej (.inl ⟨t, ht, by simpa [wT] using hw⟩))] at hv
      exact hv
    · intro x hx
      rw [htake]
      exact foldH_sel fun j ej hej hw => agree j ej hej (.inr ⟨x, hx, by simpa [wH] using hw⟩)
  -- behind it
  have step2 : ∀ (L : Nat → Bool), Dn ops.toList L → ∀ i ei, E[i]? = some ei → L i = false → (∀ o, ops[i]? = some o → ∀ j ∈ direct o, L j = true) →
      setT (foldT τ (sel L E 0)) ei = foldT τ (sel (fun j => if j = i then true else L j) E 0) ∧ setH (foldH H (sel L E 0)) ei = foldH H (sel (fun j => if j = i then true else L j) E 0) := by
    intro L hd i ei hei hLi hrd
    obtain ⟨_, _, hafter⟩ := step1 L hd i ei hei hLi hrd
    refine ⟨?_, ?_⟩
    · funext t
      cases hw : wT t ei with
      | true =>
        rw [setT_at hw, foldT_last E 0 i ei hei hw (by simp)]
        intro j ej hej hwj hij
        simp only [Nat.zero_add, show j ≠ i by omega, if_false]
        cases hLj : L j with
        | false => rfl
        | true => exact ((hafter j ej hej hij hLj).1 t (by simpa [wT] using hw) (by simpa [wT] using hwj)).elim
      | false =>
        rw [setT_other hw]
        refine foldT_sel fun j ej hej hwj => ?_
        by_cases e : j = i
        · subst e; rw [hei] at hej; cases hej; rw [hw] at hwj; cases hwj
        · simp [e]
    · funext x
      cases hw : wH x ei with
      | true =>
        rw [foldH_last (H' := foldH H (sel L E 0)) E 0 i ei hei hw (by simp)]
        intro j ej hej hwj hij
        simp only [Nat.zero_add, show j ≠ i by omega, if_false]
        cases hLj : L j with
        | false => rfl
        | true => exact ((hafter j ej hej hij hLj).2 x (by simpa [wH] using hw) (by simpa [wH] using hwj)).elim
      | false =>
        rw [setH_other hw]
        refine foldH_sel fun j ej hej hwj => ?_
        by_cases e : j = i
        · subst e; rw [hei] at hej; cases hej; rw [hw] at hwj; cases hwj
        · simp [e]
  -- all listed
  have full : ∀ (listed : Array Bool), (∀ i, i < ops.size → listed.getD i false = true) → sel (fun i => listed.getD i false) E 0 = E := by
    intro listed hall
    have : ∀ (E' : List En) (k : Nat), k + E'.length = ops.size → sel (fun i => listed.getD i false) E' k = E' := by
      intro E'
      induction E' with
      | nil => intro k _; rfl
      | cons e r ih =>
        intro k hk
        simp only [List.length_cons] at hk
        simp only [sel, hall k (by omega), if_true]
        rw [ih (k + 1) (by omega)]
    exact this E 0 (by omega)
  -- somebody is ready
  have someone : ∀ (listed : Array Bool), listed.size = ops.size → Region.ready .any ops listed = [] → ∀ i, i < ops.size → listed.getD i false = true := by
    intro listed hsz hr i
    induction i using Nat.strongRecOn with
    | _ i ih =>
      intro hi
      cases hL : listed.getD i false with
      | true => rfl
      | false =>
        exfalso
        have hmem : i ∈ Region.ready .any ops listed := by
          refine mem_ready.2 ⟨?_, ops[i], by simp [hi], ?_⟩
          · have : i < listed.size := by omega
            simpa [Array.getD_eq_getD_getElem?, this] using hL
          · intro e he hb
            have hdir : e.on ∈ direct ops[i] := List.mem_map.2 ⟨e, List.mem_filter.2 ⟨by simpa using he, hb⟩, rfl⟩
            simp only [edgesOK, List.all_eq_true, List.mem_range, Array.length_toList] at hed
            have h1 := hed i hi
            simp only [Array.getElem?_toList, show ops[i]? = some ops[i] by simp [hi], List.all_eq_true, decide_eq_true_eq] at h1
            have := h1 e.on hdir
            exact ih e.on this (by omega)
        rw [hr] at hmem
        cases hmem
  intro fuel
  induction fuel with
  | zero =>
    intro listed a w β A hsz hd hcnt hs hst hdf
    have hnil : Region.ready .any ops listed = [] := by
      apply List.eq_nil_iff_forall_not_mem.2
      intro i hi
      obtain ⟨h1, o, h2, _⟩ := mem_ready.1 hi
      have hlt : i < ops.size := (Array.getElem?_eq_some_iff.1 h2).1
      have : i ∈ (List.range ops.size).filter fun i => !listed.getD i false := by
        refine List.mem_filter.2 ⟨List.mem_range.2 hlt, ?_⟩
        have : i < listed.size := by omega
        simp [Array.getD_eq_getD_getElem?, this] at h1 ⊢
        exact h1
      have := List.length_pos_of_mem this
      omega
    refine ⟨hnil, ?_⟩
    have hfull := full listed (someone listed hsz hnil)
    rw [hfull] at hs hst
    exact hk a w β A hs hst hdf
  | succ fuel ih =>
    intro listed a w β A hsz hd hcnt hs hst hdf
    refine ⟨fun hnil => ?_, fun i hi => ?_⟩
    · have hfull := full listed (someone listed hsz hnil)
      rw [hfull] at hs hst
      exact hk a w β A hs hst hdf
    · obtain ⟨h1, o, h2, h3⟩ := mem_ready.1 hi
      have hlt : i < ops.size := (Array.getElem?_eq_some_iff.1 h2).1
      have hil : i < listed.size := by omega
      have hLi : listed.getD i false = false := by simpa [Array.getD_eq_getD_getElem?, hil] using h1
      have hei : E[i]? = some (E[i]'(by omega)) := by simp [show i < E.length by omega]
      have hrd : ∀ o', ops[i]? = some o' → ∀ j ∈ direct o', listed.getD j false = true := by
        intro o' ho' j hj
        rw [h2] at ho'
        cases ho'
        obtain ⟨ed, he, rfl⟩ := List.mem_map.1 hj
        obtain ⟨he1, he2⟩ := List.mem_filter.1 he
        exact h3 ed (by simpa using he1) he2
      obtain ⟨g1, g2, _⟩ := step1 _ hd i _ hei hLi hrd
      obtain ⟨g3, g4⟩ := step2 _ hd i _ hei hLi hrd
      have hset : ∀ j, (listed.setIfInBounds i true).getD j false = if j = i then true else listed.getD j false := by
        intro j
        simp only [Array.getD_eq_getD_getElem?, Array.getElem?_setIfInBounds]
        by_cases e : i = j
        · subst e; simp [hil]
        · simp [e, Ne.symm e]
      have hfe : (fun j => (listed.setIfInBounds i true).getD j false) = fun j => if j = i then true else listed.getD j false := funext hset
      refine ((hdo i o _ h2 hei).le g1 g2).ok hs h2 ?_
      intro a' w' β' A' hst' hs' hdf'
      rw [g3, g4] at hs'
      rw [g4] at hst'
      rw [← hfe] at hs' hst'
      refine ih _ a' w' β' A' (by simpa using hsz) ?_ ?_ hs' (hst.trans hst') (hdf'.trans hdf)
      · rw [hfe]
        intro k o' hk hLk j hj
        by_cases e : j = i
        · simp [e]
        · simp only [e, if_false]
          by_cases ek : k = i
          · subst ek; exact hrd o' (by simpa using hk) j hj
          · simp only [ek, if_false] at hLk; exact hd k o' hk hLk j hj
      · have hlt2 : ((List.range ops.size).filter fun j => !(listed.setIfInBounds i true).getD j false).length < ((List.range ops.size).filter fun j => !listed.getD j false).length := by
          have hsub : ((List.range ops.size).filter fun j => !(listed.setIfInBounds i true).getD j false) = ((List.range ops.size).filter fun j => !listed.getD j false).filter fun j => decide (j ≠ i) := by
            rw [List.filter_filter]
            apply List.filter_congr
            intro j _
            rw [hset]
            by_cases e : j = i <;> simp [e]
          rw [hsub]
          refine List.length_filter_lt_length_iff_exists.2 ⟨i, List.mem_filter.2 ⟨List.mem_range.2 hlt, by simp [hLi]⟩, by simp⟩
        omega
end
end Av

namespace Av
open Go
variable [Glb] [Rls]

theorem fl_length : ∀ (s : Ss) (g : List Nat), (fl g s).length = s.len
  | .nil, _ => rfl
  | .op _ _ r, g => by simp [fl, Ss.len, fl_length r g]
  | .call _ _ _ r, g => by simp [fl, Ss.len, fl_length r g]
  | .sc c _ body _ _ r, g => by simp [fl, Ss.len, fl_length r g, fl_length body [c]]

theorem step_ups {τ : Tmps} {H : Heap} {d : Nat} {io : IOp} {r : Res} (h : step τ H d io = some r) : clsO io ≤ 1 → r.ups = [] := by
  intro hc
  cases io <;> simp only [clsO] at hc <;> first | omega | skip
  all_goals
    simp only [step] at h
    first
      | (obtain ⟨v, _, rfl⟩ := Option.map_eq_some_iff.1 h; rfl)
      | (repeat' split at h) <;> first | (cases h; rfl) | (cases h; done)

theorem rd_pure {τ : Tmps} {d : Nat} {io : IOp} (h : clsO io = 0) : rd τ d io = [] := by
  cases io <;> simp only [clsO] at h <;> first | rfl | omega

section
variable {P : Program} {N : Nat} {ops : Array Oper} {o : Oper}

inductive Chain (P : Program) (N : Nat) (ops : Array Oper) : List Nat → List Fo → Log → Tmps → Heap → List En → Tmps → Heap → Prop
  | nil (τ H) : Chain P N ops [] [] [] τ H [] τ H
  | cons (i o l f fs g lg τ H e E τ' H') (ho : ops[i]? = some o) (hd : Do P N ops o τ H e) (ha : Al f g e) (hc : Chain P N ops l fs lg (setT τ e) (setH H e) E τ' H') : Chain P N ops (i :: l) (f :: fs) (g :: lg) τ H (e :: E) τ' H'

theorem Chain.append {l1 l2 : List Nat} {f1 f2 : List Fo} {g1 g2 : Log} {τ τ1 τ2 : Tmps} {H H1 H2 : Heap} {E1 E2 : List En} (h1 : Chain P N ops l1 f1 g1 τ H E1 τ1 H1) (h2 : Chain P N ops l2 f2 g2 τ1 H1 E2 τ2 H2) :
    Chain P N ops (l1 ++ l2) (f1 ++ f2) (g1 ++ g2) τ H (E1 ++ E2) τ2 H2 := by
  induction h1 with
  | nil => exact h2
  | cons i o l f fs g lg τ H e E τ' H' ho hd ha hc ih => exact .cons _ _ _ _ _ _ _ _ _ _ _ _ _ ho hd ha (ih h2)

theorem trOne_cases {f : Ss → Ss} (h : trOne P N o = some f) : dstOk N o.dst = true ∧ ((∃ io, trOp P o = some io ∧ f = Ss.op o.dst io) ∨
    ∃ g args argTypes fc xs, o.op = .call { callee := .value g, args, argTypes } ∧ trCal P g = some fc ∧ allSome ((args.toList.zip argTypes.toList).map fun (x, t) => opd P t x) = some xs ∧ args.size = argTypes.size ∧ f = Ss.call o.dst fc xs) := by
  unfold trOne at h
  split at h
  case isFalse => cases h
  rename_i hd
  refine ⟨hd, ?_⟩
  split at h
  · rename_i g args argTypes ho
    split at h
    · rename_i fc xs hcal hxs
      split at h
      · rename_i hsz
        cases h
        exact .inr ⟨g, args, argTypes, fc, xs, ho, hcal, hxs, hsz, rfl⟩
      · cases h
    · cases h
  · obtain ⟨io, hio, rfl⟩ := map_some_eq h
    exact .inl ⟨io, hio, rfl⟩

theorem setT_get {τ : Tmps} {e : En} {t : Nat} (h : t ∉ e.dst.toList) : setT τ e t = τ t := by
  refine setT_other ?_
  cases hd : e.dst with
  | none => simp [wT, hd]
  | some d => simp [hd] at h; simp [wT, hd, Ne.symm h]

theorem skip_txt : ∀ (m : Nat) (j : Nat) (b : Bool) (asg l : List Nat) (s : Ss) (l' : List Nat) (τ : Tmps) (H : Heap) (c : Nat) (v : Av) (lg : Log), trSs P N ops m (some (j, b)) asg l = some (s, l') → (ops[j]?).bind (·.dst) = some c → c ∉ s.dsts →
    τ c = some v → notB b v → (∀ t ∈ asg, τ t = some .und) → lg.length = s.len →
    ∃ pre E τ', l = pre ++ l' ∧ Chain P N ops pre (fl [c] s) lg τ H E τ' H ∧ (∀ t, t ∉ s.dsts → τ' t = τ t) ∧ ∀ t ∈ s.dsts, τ' t = some .und
  | 0, j, b, asg, l, s, l', τ, H, c, v, lg, h, _, _, _, _, _, _ => by simp [trSs] at h
  | m + 1, j, b, asg, [], s, l', τ, H, c, v, lg, h, _, _, _, _, _, hl => by
    simp only [trSs, Option.some.injEq, Prod.mk.injEq] at h
    obtain ⟨rfl, rfl⟩ := h
    obtain rfl : lg = [] := by simpa [Ss.len] using hl
    exact ⟨[], [], τ, rfl, .nil _ _, fun _ _ => rfl, by simp [Ss.dsts]⟩
  | m + 1, j, b, asg, i :: l, s, l', τ, H, c, v, lg, h, hj, hcs, hcu, hub, hasg, hl => by
    unfold trSs at h
    split at h
    · cases h
    rename_i o ho
    split at h
    · rename_i hg
      split at h
      case h_2 => cases h
      rename_i f hf
      split at h
      case h_2 => cases h
      rename_i r l2 hr
      simp only [Option.some.injEq, Prod.mk.injEq] at h
      obtain ⟨rfl, rfl⟩ := h
      have hdd := trOne_dsts hf r
      rw [hdd] at hcs ⊢
      have hcd : c ∉ o.dst.toList := fun h => hcs (List.mem_append_left _ h)
      obtain ⟨fo, hfl, hfd, hfn⟩ : ∃ fo : Fo, fl [c] (f r) = fo :: fl [c] r ∧ fo.dst = o.dst ∧ c ∈ fo.nd := by
        rcases (trOne_cases hf).2 with ⟨io, _, rfl⟩ | ⟨g, args, argTypes, fc, xs, _, _, _, _, rfl⟩
        · exact ⟨_, rfl, rfl, by simp⟩
        · exact ⟨_, rfl, rfl, by simp⟩
      have hlen : (f r).len = r.len + 1 := by
        have := congrArg List.length hfl
        rw [fl_length] at this
        simpa [fl_length] using this
      rw [hlen] at hl
      cases lg with
      | nil => simp at hl
      | cons g0 lg =>
        have hasg' : ∀ t ∈ o.dst.toList ++ asg, setT τ ⟨o.dst, .und, [], [], fo.nd⟩ t = some .und := by
          intro t ht
          by_cases htd : t ∈ o.dst.toList
          · exact setT_at (e := ⟨o.dst, .und, [], [], fo.nd⟩) (by cases e : o.dst with | none => simp [e] at htd | some d => simp [e] at htd; simp [wT, htd])
          · rw [setT_get htd]; exact hasg t ((List.mem_append.1 ht).resolve_left htd)
        obtain ⟨pre, E, τ', h1, h2, h3, h4⟩ := skip_txt m j b (o.dst.toList ++ asg) l r _ (setT τ ⟨o.dst, .und, [], [], fo.nd⟩) H c v lg hr hj (fun h => hcs (List.mem_append_right _ h)) (by rw [setT_get hcd]; exact hcu) hub hasg' (by simpa using hl)
        refine ⟨i :: pre, (⟨o.dst, .und, [], [], fo.nd⟩ : En) :: E, τ', by rw [h1]; rfl, ?_, ?_, ?_⟩
        · rw [hfl]
          exact .cons i o pre fo _ g0 lg τ H ⟨o.dst, .und, [], [], fo.nd⟩ E τ' H ho (.skip j b c v fo.nd hg hj (trOne_cases hf).1 hcu hub hfn) ⟨hfd.symm, rfl, by simp, by simp, fun _ => ⟨rfl, rfl⟩, fun _ => rfl⟩ h2
        · intro t ht
          rw [h3 t (fun h => ht (List.mem_append_right _ h)), setT_get (fun h => ht (List.mem_append_left _ h))]
        · intro t ht
          by_cases hr' : t ∈ r.dsts
          · exact h4 t hr'
          · rw [h3 t hr']
            exact hasg' t (List.mem_append_left _ ((List.mem_append.1 ht).resolve_right hr'))
    · rename_i hg
      split at h
      · simp only [Option.some.injEq, Prod.mk.injEq] at h
        obtain ⟨rfl, rfl⟩ := h
        obtain rfl : lg = [] := by simpa [Ss.len] using hl
        exact ⟨[], [], τ, rfl, .nil _ _, fun _ _ => rfl, by simp [Ss.dsts]⟩
      · rename_i j2 b2 hg2
        split at h
        · cases h
        rename_i c2 hc2
        split at h
        case isFalse =>
          simp only [Option.some.injEq, Prod.mk.injEq] at h
          obtain ⟨rfl, rfl⟩ := h
          obtain rfl : lg = [] := by simpa [Ss.len] using hl
          exact ⟨[], [], τ, rfl, .nil _ _, fun _ _ => rfl, by simp [Ss.dsts]⟩
        rename_i hin
        have hin' : c2 ∈ asg := by simpa using hin
        split at h
        case h_2 => cases h
        rename_i body i' l2 hb
        split at h
        case h_2 => cases h
        rename_i pk hpk
        split at h
        case h_2 => cases h
        rename_i c' x y d hop hdst
        split at h
        case h_2 => cases h
        rename_i z hz
        split at h
        case isFalse => cases h
        rename_i hcond
        obtain ⟨k1, rfl, k3, k4, k5⟩ := hcond
        split at h
        case h_2 => cases h
        rename_i r l3 hr
        simp only [Option.some.injEq, Prod.mk.injEq] at h
        obtain ⟨rfl, rfl⟩ := h
        simp only [Ss.dsts, List.mem_append, List.mem_cons, not_or] at hcs ⊢
        obtain ⟨q1, q2, q3⟩ := hcs
        simp only [Ss.len] at hl
        obtain ⟨lb, lr, hlg, hlb⟩ : ∃ lb lr, lg = lb ++ lr ∧ lb.length = body.len := ⟨lg.take body.len, lg.drop body.len, (List.take_append_drop _ _).symm, by simp; omega⟩
        subst hlg
        rw [List.length_append, hlb] at hl
        cases lr with
        | nil => simp at hl
        | cons g0 lr =>
          obtain ⟨p1, E1, τ1, h1, h2, h3, h4⟩ := skip_txt m j2 b2 [] (i :: l) body _ τ H c' .und lb hb hc2 (by simpa using k4) (hasg c' hin') (.inl rfl) (by simp) hlb
          have hcu1 : τ1 c = some v := by rw [h3 c q1]; exact hcu
          let e0 : En := ⟨pk.dst, .und, [], [], c' :: (tO z ++ [c])⟩
          have hasg' : ∀ t ∈ d :: (body.dsts ++ asg), setT τ1 e0 t = some .und := by
            intro t ht
            by_cases e : t = d
            · subst e; exact setT_at (e := e0) (by simp [wT, e0, hdst])
            · rw [setT_get (e := e0) (by simpa [e0, hdst] using e)]
              by_cases hbt : t ∈ body.dsts
              · exact h4 t hbt
              · rw [h3 t hbt]
                simp only [List.mem_cons, List.mem_append] at ht
                rcases ht with h | h | h
                · exact absurd h e
                · exact absurd h hbt
                · exact hasg t h
          obtain ⟨p2, E2, τ2, g1, g2, g3, g4⟩ := skip_txt m j b (d :: (body.dsts ++ asg)) l2 r _ (setT τ1 e0) H c v lr hr hj q3 (by rw [setT_get (e := e0) (by simpa [e0, hdst] using q2)]; exact hcu1) hub hasg' (by simp at hl; omega)
          refine ⟨p1 ++ i' :: p2, E1 ++ e0 :: E2, τ2, by rw [h1, g1]; simp, ?_, ?_, ?_⟩
          · refine h2.append ?_
            refine .cons i' pk p2 _ _ g0 lr τ1 H e0 E2 τ2 H hpk (.skip j b c v _ k1 hj (by rw [hdst]; simp [dstOk, k3]) hcu1 hub (by simp)) ⟨hdst, rfl, by simp [e0], by simp [e0], fun _ => ⟨rfl, rfl⟩, fun _ => rfl⟩ g2
          · rintro t ⟨t1, t2, t3⟩
            rw [g3 t t3, setT_get (e := e0) (by simpa [e0, hdst] using t2), h3 t t1]
          · intro t ht
            by_cases e1 : t ∈ r.dsts
            · exact g4 t e1
            · rw [g3 t e1]
              exact hasg' t (by
                simp only [List.mem_cons, List.mem_append]
                rcases ht with h | h | h
                · exact .inr (.inl h)
                · exact .inl h
                · exact absurd h e1)
  termination_by m => m

theorem txt_ok : ∀ (m : Nat) (g : Option (Nat × Bool)) (asg l : List Nat) (s : Ss) (l' : List Nat) (K : St → Log → Prop) (st : St) (lg0 : Log) (τ : Tmps), trSs P N ops m g asg l = some (s, l') →
    (∀ j b, g = some (j, b) → ∃ c, (ops[j]?).bind (·.dst) = some c ∧ c ∉ s.dsts ∧ τ c = some (.d (.bool b))) → wpsL P s K st lg0 → (∀ t v, get st.tm t = some v → τ t = some v) →
    ∃ pre E lg τ' st', l = pre ++ l' ∧ Chain P N ops pre (fl (gT ops g) s) lg τ (get st.hp) E τ' (get st'.hp) ∧ K st' (lg0 ++ lg) ∧ (∀ t v, get st'.tm t = some v → τ' t = some v) ∧ ∀ t, t ∉ s.dsts → τ' t = τ t
  | 0, g, asg, l, s, l', K, st, lg0, τ, h, _, _, _ => by simp [trSs] at h
  | m + 1, g, asg, [], s, l', K, st, lg0, τ, h, _, hw, hle => by
    simp only [trSs, Option.some.injEq, Prod.mk.injEq] at h
    obtain ⟨rfl, rfl⟩ := h
    exact ⟨[], [], [], τ, st, rfl, .nil _ _, by simpa [wpsL] using hw, hle, fun _ _ => rfl⟩
  | m + 1, g, asg, i :: l, s, l', K, st, lg0, τ, h, hgo, hw, hle => by
    have gon : ∀ τ1 : Tmps, (∀ t, t ∉ s.dsts → τ1 t = τ t) → GdOn ops τ1 g := by
      intro τ1 hfr
      cases g with
      | none => trivial
      | some p =>
        obtain ⟨j, b⟩ := p
        obtain ⟨c, h1, h2, h3⟩ := hgo j b rfl
        exact ⟨c, h1, by rw [hfr c h2]; exact h3⟩
    unfold trSs at h
    split at h
    · cases h
    rename_i o ho
    split at h
    · rename_i hg
      split at h
      case h_2 => cases h
      rename_i f hf
      split at h
      case h_2 => cases h
      rename_i r l2 hr
      simp only [Option.some.injEq, Prod.mk.injEq] at h
      obtain ⟨rfl, rfl⟩ := h
      have hdd := trOne_dsts hf r
      -- one entry, then the rest
      have rest : ∀ (fo : Fo) (g0 : List Nat × List Nat) (e : En) (st1 : St), fl (gT ops g) (f r) = fo :: fl (gT ops g) r → Do P N ops o τ (get st.hp) e → Al fo g0 e → e.dst = o.dst → wpsL P r K st1 (lg0 ++ [g0]) → get st1.hp = setH (get st.hp) e →
          (∀ t v, get st1.tm t = some v → setT τ e t = some v) →
          ∃ pre E lg τ' st', i :: l = pre ++ l2 ∧ Chain P N ops pre (fl (gT ops g) (f r)) lg τ (get st.hp) E τ' (get st'.hp) ∧ K st' (lg0 ++ lg) ∧ (∀ t v, get st'.tm t = some v → τ' t = some v) ∧ ∀ t, t ∉ (f r).dsts → τ' t = τ t := by
        intro fo g0 e st1 hfl hdo hal hed hw1 hh hle1
        obtain ⟨pre, E, lg, τ', st', h1, h2, h3, h4, h5⟩ := txt_ok m g _ l r _ K st1 (lg0 ++ [g0]) (setT τ e) hr (by
          intro j b hjb
          obtain ⟨c, q1, q2, q3⟩ := hgo j b hjb
          rw [hdd] at q2
          exact ⟨c, q1, fun h => q2 (List.mem_append_right _ h), by rw [setT_get (by rw [hed]; exact fun h => q2 (List.mem_append_left _ h))]; exact q3⟩) hw1 hle1
        refine ⟨i :: pre, e :: E, g0 :: lg, τ', st', by rw [h1]; rfl, ?_, by simpa using h3, h4, ?_⟩
        · rw [hfl]
          refine .cons i o pre fo _ g0 lg τ _ e E τ' _ ho hdo hal ?_
          rw [← hh]
          exact h2
        · intro t ht
          rw [hdd] at ht
          rw [h5 t (fun h => ht (List.mem_append_right _ h)), setT_get (by rw [hed]; exact fun h => ht (List.mem_append_left _ h))]
      have put_le : ∀ (d : Option Nat) (v : Av) (ups : List (Nat × Obj)) (lk nd : List Nat) (t : Nat) (u : Av), get (st.app d v ups).tm t = some u → setT τ ⟨d, v, ups, lk, nd⟩ t = some u := by
        intro d v ups lk nd t u ht
        cases d with
        | none => exact hle t u ht
        | some d =>
          simp only [St.app, get_put] at ht
          simp only [setT, upd]
          split at ht
          · rename_i e; rw [if_pos e]; exact ht
          · rename_i e; rw [if_neg e]; exact hle t u ht
      obtain ⟨hdok, ⟨io, hio, rfl⟩ | ⟨g', args, argTypes, fc, xs, hop, hcal, hxs, hsz, rfl⟩⟩ := trOne_cases hf
      · simp only [wpsL] at hw
        split at hw
        case h_2 => exact hw.elim
        rename_i x hx
        obtain ⟨hc, hw⟩ := hw
        obtain ⟨s1, s2⟩ := step_le (τ' := τ) (H' := get st.hp) hx (fun t _ v hv => hle t v hv) (fun _ _ => rfl)
        refine rest _ _ ⟨o.dst, x.v, x.ups, rd τ (o.dst.getD 0) io, tI io ++ gT ops g⟩ _ rfl
          (.op io x _ (by rw [hg]; exact gon τ (fun _ _ => rfl)) (by rw [hg]; intro t ht; exact List.mem_append_right _ ht) hio hdok (fun t ht => List.mem_append_left _ ht) s1 hc)
          ⟨rfl, rfl, by rw [s2]; exact fun _ h => h, fun _ h => h, fun h0 => ⟨rd_pure h0, step_ups s1 (by dsimp only at h0; omega)⟩, fun h1 => step_ups s1 h1⟩ rfl hw (get_puts _ _) (put_le _ _ _ _ _)
      · simp only [wpsL] at hw
        split at hw
        case h_2 => exact hw.elim
        rename_i f' vs htg
        obtain ⟨T, v, ups, hp1, hcok, hT, hp1e, hw⟩ := hw
        refine rest _ _ ⟨o.dst, v, ups, T.map (·.1), calT fc ++ (xs.flatMap tO ++ gT ops g)⟩ _ rfl
          (.call fc xs g' args argTypes f' vs T v ups _ (by rw [hg]; exact gon τ (fun _ _ => rfl)) (by rw [hg]; intro t ht; simp [ht]) hop hcal hxs hsz hdok (fun t ht => by simp [ht]) (fun x hx t ht => by subst hx; simp [calT, ht])
            (target_le (nd := xs.flatMap tO ++ calT fc) htg (fun t ht => List.mem_append_left _ ht) (fun x hx t ht => by subst hx; exact List.mem_append_right _ ht) (fun t _ v hv => hle t v hv)) hcok hT)
          ⟨rfl, rfl, fun _ h => h, fun _ h => h, (fun h0 => by cases h0), (fun h1 => by dsimp only at h1; omega)⟩ rfl hw (funext hp1e) (put_le _ _ _ _ _)
    · rename_i hg
      split at h
      · simp only [Option.some.injEq, Prod.mk.injEq] at h
        obtain ⟨rfl, rfl⟩ := h
        exact ⟨[], [], [], τ, st, rfl, .nil _ _, by simpa [wpsL] using hw, hle, fun _ _ => rfl⟩
      · rename_i j2 b2 hg2
        split at h
        · cases h
        rename_i c2 hc2
        split at h
        case isFalse =>
          simp only [Option.some.injEq, Prod.mk.injEq] at h
          obtain ⟨rfl, rfl⟩ := h
          exact ⟨[], [], [], τ, st, rfl, .nil _ _, by simpa [wpsL] using hw, hle, fun _ _ => rfl⟩
        split at h
        case h_2 => cases h
        rename_i body i' l2 hb
        split at h
        case h_2 => cases h
        rename_i pk hpk
        split at h
        case h_2 => cases h
        rename_i c' x y d hop hdst
        split at h
        case h_2 => cases h
        rename_i z hz
        split at h
        case isFalse => cases h
        rename_i hcond
        obtain ⟨k1, rfl, k3, k4, k5⟩ := hcond
        split at h
        case h_2 => cases h
        rename_i r l3 hr
        simp only [Option.some.injEq, Prod.mk.injEq] at h
        obtain ⟨rfl, rfl⟩ := h
        simp only [wpsL] at hw
        split at hw
        case h_2 => exact hw.elim
        rename_i xv hxv
        obtain ⟨yv, hp1, lb, hlb, hbody, hskip, hrest⟩ := hw
        have hcx := hle c' _ hxv
        have hcb : c' ∉ body.dsts := by simpa using k4
        have hgt : gT ops (some (j2, b2)) = [c'] := by simp [gT, hc2]
        have fin : ∀ (p1 : List Nat) (E1 : List En) (τ1 : Tmps) (z' : Opd) (v : Bool), i :: l = p1 ++ i' :: l2 → Chain P N ops p1 (fl [c'] body) lb τ (get st.hp) E1 τ1 (get hp1) → (∀ t, t ∉ body.dsts → τ1 t = τ t) →
            opd P 0 (if xv then x else y) = some z' → val τ1 z' = some (.d (.bool v)) → (∀ t ∈ tO z', t ∈ tO z) → v = (if b2 then xv && yv else xv || yv) →
            ∃ pre E lg τ' st', i :: l = pre ++ l3 ∧ Chain P N ops pre (fl (gT ops g) (.sc c' b2 body z d r)) lg τ (get st.hp) E τ' (get st'.hp) ∧ K st' (lg0 ++ lg) ∧ (∀ t v, get st'.tm t = some v → τ' t = some v) ∧ ∀ t, t ∉ (Ss.sc c' b2 body z d r).dsts → τ' t = τ t := by
          intro p1 E1 τ1 z' v h1 hch hfr hz' hv' hzz hvv
          subst hvv
          let e0 : En := ⟨some d, .d (.bool (if b2 then xv && yv else xv || yv)), [], [], c' :: (tO z ++ gT ops g)⟩
          have hdo : Do P N ops pk τ1 (get hp1) e0 := .pick c' x y z' d xv _ _ (by rw [k1]; exact gon τ1 (fun t ht => hfr t (fun h => ht (by simp [Ss.dsts, h])))) (by rw [k1]; intro t ht; simp [ht]) hop hdst k3 (by rw [hfr c' hcb]; exact hcx) hz' hv' (by simp) (fun t ht => by simp [hzz t ht])
          obtain ⟨p2, E2, lg2, τ2, st', g1, g2, g3, g4, g5⟩ := txt_ok m g _ l2 r _ K ⟨put (drops st.tm body.dsts) d (.d (.bool (if b2 then xv && yv else xv || yv))), hp1⟩ (lg0 ++ (lb ++ [([], [])])) (setT τ1 e0) hr (by
            intro j b hjb
            obtain ⟨c, q1, q2, q3⟩ := hgo j b hjb
            simp only [Ss.dsts, List.mem_append, List.mem_cons, not_or] at q2
            exact ⟨c, q1, q2.2.2, by rw [setT_get (e := e0) (by simpa [e0] using q2.2.1), hfr c q2.1]; exact q3⟩) hrest (by
            intro t v ht
            simp only [get_put] at ht
            by_cases e : t = d
            · rw [if_pos e] at ht
              subst e
              rw [setT_at (e := e0) (by simp [wT, e0])]
              exact ht
            · rw [if_neg e, get_drops] at ht
              split at ht
              · cases ht
              · rename_i hnb
                rw [setT_get (e := e0) (by simpa [e0] using e), hfr t (by simpa using hnb)]
                exact hle t v ht)
          refine ⟨p1 ++ i' :: p2, E1 ++ e0 :: E2, lb ++ ([], []) :: lg2, τ2, st', by rw [h1, g1]; simp, ?_, by simpa using g3, g4, ?_⟩
          · refine hch.append ?_
            exact .cons i' pk p2 _ _ _ lg2 τ1 _ e0 E2 τ2 _ hpk hdo ⟨rfl, rfl, by simp [e0], by simp [e0], fun _ => ⟨rfl, rfl⟩, fun _ => rfl⟩ g2
          · intro t ht
            simp only [Ss.dsts, List.mem_append, List.mem_cons, not_or] at ht
            rw [g5 t ht.2.2, setT_get (e := e0) (by simpa [e0] using ht.2.1), hfr t ht.1]
        by_cases hxb : xv = b2
        · obtain ⟨p1, E1, lg1, τ1, st1, h1, h2, ⟨h3, h3', h3''⟩, h4, h5⟩ := txt_ok m (some (j2, b2)) [] (i :: l) body _ _ st [] τ hb (by
            intro j b hjb
            cases hjb
            exact ⟨c', hc2, hcb, by rw [← hxb]; exact hcx⟩) (hbody hxb) hle
          rw [hgt, h3'] at h2
          rw [List.nil_append] at h3''
          rw [h3''] at h2
          refine fin p1 E1 τ1 z yv h1 h2 h5 (by rw [hxb]; exact hz) (val_le (fun t _ v hv => h4 t v hv) h3) (fun _ h => h) ?_
          subst hxb
          cases xv <;> simp
        · obtain ⟨p1, E1, τ1, h1, h2, h3, h4⟩ := skip_txt m j2 b2 [] (i :: l) body _ τ (get st.hp) c' (.d (.bool xv)) lb hb hc2 hcb hcx (.inr ⟨xv, rfl, hxb⟩) (by simp) hlb
          have e1 := hskip hxb
          subst e1
          unfold pickOk at k5
          split at k5
          · have : xv = false := by cases xv <;> simp_all
            subst this
            exact fin p1 E1 τ1 (.k (.bool false)) false h1 h2 h3 rfl rfl (by simp [tO]) (by simp)
          · have : xv = true := by cases xv <;> simp_all
            subst this
            exact fin p1 E1 τ1 (.k (.bool true)) true h1 h2 h3 rfl rfl (by simp [tO]) (by simp)
          · cases k5
  termination_by m => m
end
end Av

namespace Av
open Go
variable [Glb] [Rls]

section
variable {P : Program} {N : Nat} {β : Blocks} {A : Nat → Prop} {w : World} {a : Act} {ro : Option Nat} {n : Nat} {st : St} {E : Ent}

theorem Sat.b (h : Sat E N st a w β A) : SatB N st a w β A := ⟨h.core, h.tmps, h.size⟩

theorem least {p : Nat → Prop} (h : ∃ n, p n) : ∃ n, p n ∧ ∀ m, p m → n ≤ m := by
  obtain ⟨n, hn⟩ := h
  induction n using Nat.strongRecOn with
  | _ n ih =>
    by_cases hm : ∃ m, m < n ∧ p m
    · obtain ⟨m, h1, h2⟩ := hm; exact ih m h1 h2
    · exact ⟨n, hn, fun m h => Nat.le_of_not_lt fun hlt => hm ⟨m, hlt, h⟩⟩

theorem wpIn_loop_n {F : Fence} {c : Code} {Q : Exit → Act → World → Prop} (I : Nat → Act → World → Prop) (h0 : ∃ n, I n a w)
    (round : ∀ k a w, I k a w → c.wpIn F n P (Exit.then (fun a' w' => ∃ m, m < k ∧ I m a' w') Q) a w) : (Code.loop c).wpIn F n P Q a w := by
  refine wpIn_loop (fun a w => ∃ k, I k a w) (fun a w => Classical.epsilon fun k => I k a w ∧ ∀ m, I m a w → k ≤ m) h0 ?_
  intro a w hI
  obtain ⟨k, hk, hmin⟩ := least hI
  refine wpIn_mono (round k a w hk) ?_
  intro e a' w' hq
  cases e with
  | normal =>
    obtain ⟨m, hlt, hm⟩ := hq
    refine ⟨⟨m, hm⟩, ?_⟩
    have e1 := Classical.epsilon_spec (least (p := fun k => I k a' w') ⟨m, hm⟩)
    have e2 := Classical.epsilon_spec (least (p := fun k => I k a w) ⟨k, hk⟩)
    have := e1.2 m hm
    have := hmin _ e2.1
    omega
  | _ => exact hq

theorem Marks.step {H H' : Heap} {w' : World} {a' : Act} {β' : Blocks} {A' : Nat → Prop} (hst : Stp β A w H β' A' w' H') (hd : a'.defers = a.defers) (h : Marks E a w β A H) : Marks E a' w' β' A' H' := by
  obtain ⟨ms, h0, h1, h2⟩ := h
  refine ⟨ms, h0, hd.trans h1, ?_⟩
  intro r hr
  obtain ⟨g1, g2, g3, g4⟩ := h2 r hr
  have hlt : r < w.heap.size := (Array.getElem?_eq_some_iff.1 g2).1
  refine ⟨g1, by rw [hst.same r hlt g4]; exact g2, ?_, ?_⟩
  · intro hA
    rcases hst.data r hA with h | h | ⟨i, o, q1, q2, q3⟩
    · exact g3 h
    · omega
    · exact g4 i o q1 q2 q3
  · intro i o q1 q2 q3
    rcases hst.mine i o r q1 q2 q3 with h | ⟨i', o', p1, p2, p3⟩
    · omega
    · exact g4 i' o' p1 p2 p3

theorem Sat.wk {st' : St} (h : Sat E N st a w β A) (hw : Wk E.D st st') : ∃ β' A', Sat E N st' a w β' A' := by
  obtain ⟨β', A', h1, h2, h3, h5, h4⟩ := hw β A w a h.core h.tmps
  refine ⟨β', A', h1, h2, h.size, ⟨h.since.os, h.since.tape, h.since.output, h.since.size, h.since.same, h.since.loops, ?_, ?_, fun c u hb hv => h4 c u hb (h.since.vals c u hb hv)⟩, ?_, h.round⟩
  · intro b hb
    rcases h5 b hb with h0 | ⟨i, o, g1, g2, g3⟩
    · exact h.since.data b h0
    · exact .inr (h.since.mine i o b g1 g2 g3)
  · intro i o b hi ho hb
    obtain ⟨i', o', g1, g2, g3⟩ := h3 i o b hi ho hb
    exact h.since.mine i' o' b g1 g2 g3
  · obtain ⟨ms, q0, q1, q2⟩ := h.marks
    refine ⟨ms, q0, q1, fun r hr => ?_⟩
    obtain ⟨p1, p2, p3, p4⟩ := q2 r hr
    refine ⟨p1, p2, fun hA => ?_, fun i o hi ho hb => ?_⟩
    · rcases h5 r hA with h0 | ⟨i, o, g1, g2, g3⟩
      · exact p3 h0
      · exact p4 i o g1 g2 g3
    · obtain ⟨i', o', g1, g2, g3⟩ := h3 i o r hi ho hb
      exact p4 i' o' g1 g2 g3

theorem Sat.kill {ts : List Nat} (h : Sat E N st a w β A) : Sat E N ⟨drops st.tm ts, st.hp⟩ a w β A := by
  refine ⟨h.core, ?_, h.size, h.since, h.marks, h.round⟩
  intro t v ht
  simp only [get_drops] at ht
  split at ht
  · cases ht
  · exact h.tmps t v ht

theorem Sat.step {st' : St} {a' : Act} {w' : World} {β' : Blocks} {A' : Nat → Prop} (h : Sat E N st a w β A) (hst : Stp β A w (get st.hp) β' A' w' (get st'.hp)) (hs : SatB N st' a' w' β' A') (hd : a'.defers = a.defers) : Sat E N st' a' w' β' A' :=
  ⟨hs.core, hs.tmps, hs.size, h.since.trans hst, h.marks.step hst hd, fun l hl => by obtain ⟨r, hr⟩ := h.round l hl; exact hst.loops l r hr⟩

/-- what a state says of the machine, for some blocks and data -/
def At (E : Ent) (N : Nat) (Q : Exit → St → Prop) (e : Exit) (a : Act) (w : World) : Prop := ∃ st β A, Q e st ∧ Sat E N st a w β A

theorem At.mono {Q Q' : Exit → St → Prop} {e e' : Exit} {a : Act} {w : World} (h : At E N Q e a w) (hq : ∀ st, Q e st → Q' e' st) : At E N Q' e' a w := by
  obtain ⟨st, β, A, h1, h2⟩ := h
  exact ⟨st, β, A, hq st h1, h2⟩

theorem trCode_inv {code : Code} {ic : Ic} (h : trCode P N code = some ic) : match ic with
    | .skip => code = .skip
    | .reg s => ∃ id ops draw, code = .region id ops draw ∧ trSs P N ops (2 * ops.size + 2) none [] (List.range ops.size) = some (s, []) ∧
        (draw = true → P.follows .mixedOrders = true ∧ edgesOK ops.toList = true ∧ sepOK (closure ops.toList []) (fl [] s) [] = true)
    | .regd un s => ∃ id ops, code = .region id ops true ∧ trSs P N ops (2 * ops.size + 2) none [] (List.range ops.size) = some (s, []) ∧
        P.follows .mixedOrders = true ∧ edgesOK ops.toList = true ∧ sepOK (closure ops.toList []) (fl [] s) un = true
    | .seq a b => ∃ x y, code = .seq x y ∧ trCode P N x = some a ∧ trCode P N y = some b
    | .ite c a b => ∃ c' x y, code = .cond c' x y ∧ opd P 0 c' = some c ∧ trCode P N x = some a ∧ trCode P N y = some b
    | .block id b => ∃ x, code = .block id x ∧ trCode P N x = some b
    | .loop b => ∃ x, code = .loop x ∧ trCode P N x = some b
    | .exit id => code = .exit id
    | .ret => code = .ret
    | .bad => True
    | .scp b => ∃ x, code = .scope x ∧ trCode P N x = some b
    | .lab => ∃ l, code = .label l
    | .rng f N' lid ps c1 c2 a b => N' = N ∧ ∃ g, code = .rangeFunc g ps c1 c2 ∧ opd P 0 g = some f ∧ trCode P N c1 = some a ∧ trCode P N c2 = some b ∧ ∀ t ∈ ps, t < N
    | _ => False := by
  cases code with
  | skip => simp only [trCode, Option.some.injEq] at h; subst h; rfl
  | region id ops draw =>
    cases draw with
    | false =>
      simp only [trCode] at h
      split at h
      · rename_i s hs; cases h; exact ⟨id, ops, false, rfl, hs, by intro h; cases h⟩
      · cases h; trivial
    | true =>
      simp only [trCode] at h
      split at h
      · rename_i s hs
        split at h
        · rename_i hc
          simp only [Bool.and_eq_true] at hc
          obtain ⟨c1, c2, c3⟩ := hc
          split at h
          · rename_i hun
            cases h
            exact ⟨id, ops, true, rfl, hs, fun _ => ⟨c1, c2, by rw [← hun]; exact c3⟩⟩
          · rename_i hun
            cases h
            exact ⟨id, ops, rfl, hs, c1, c2, c3⟩
        · cases h; trivial
      · cases h; trivial
  | seq x y =>
    simp only [trCode] at h
    split at h
    · rename_i a b h1 h2; cases h; exact ⟨x, y, rfl, h1, h2⟩
    · cases h
  | cond c x y =>
    simp only [trCode] at h
    split at h
    · rename_i c' a b h0 h1 h2; cases h; exact ⟨c, x, y, rfl, h0, h1, h2⟩
    · cases h
  | block id x => obtain ⟨b, h1, rfl⟩ := map_some_eq (by simpa only [trCode] using h); exact ⟨x, rfl, h1⟩
  | loop x => obtain ⟨b, h1, rfl⟩ := map_some_eq (by simpa only [trCode] using h); exact ⟨x, rfl, h1⟩
  | scope x => obtain ⟨b, h1, rfl⟩ := map_some_eq (by simpa only [trCode] using h); exact ⟨x, rfl, h1⟩
  | label l => simp only [trCode, Option.some.injEq] at h; subst h; exact ⟨l, rfl⟩
  | exit id => simp only [trCode, Option.some.injEq] at h; subst h; rfl
  | ret => simp only [trCode, Option.some.injEq] at h; subst h; rfl
  | rangeFunc g ps x y =>
    simp only [trCode] at h
    split at h
    · rename_i f a b h0 h1 h2
      split at h
      · rename_i hps
        cases h
        exact ⟨rfl, g, rfl, h0, h1, h2, fun t ht => by
          obtain ⟨i, hi, e⟩ := Array.getElem_of_mem ht
          have hps' : ∀ (i : Nat) (x : i < ps.size), ps[i] < N := by simpa using hps
          rw [← e]; exact hps' i hi⟩
      · cases h
    · cases h
  | _ => simp only [trCode, Option.some.injEq] at h; subst h; trivial

theorem wpsL_mono {K K' : St → Log → Prop} (hK : ∀ st lg, K st lg → K' st lg) : ∀ (s : Ss) (st : St) (lg : Log), wpsL P s K st lg → wpsL P s K' st lg
  | .nil, st, lg, h => hK _ _ h
  | .op d o r, st, lg, h => by
    simp only [wpsL] at h ⊢
    split at h
    · exact ⟨h.1, wpsL_mono hK r _ _ h.2⟩
    · exact h.elim
  | .call d f args r, st, lg, h => by
    simp only [wpsL] at h ⊢
    split at h
    · obtain ⟨T, v, ups, hp, h1, h2, h3, h4⟩ := h
      exact ⟨T, v, ups, hp, h1, h2, h3, wpsL_mono hK r _ _ h4⟩
    · exact h.elim
  | .sc c b body y d r, st, lg, h => by
    simp only [wpsL] at h ⊢
    split at h
    · obtain ⟨yv, hp, l, h1, h2, h3, h4⟩ := h
      exact ⟨yv, hp, l, h1, h2, h3, wpsL_mono hK r _ _ h4⟩
    · exact h.elim

/-- a log can be kept -/
theorem wps_log : ∀ (s : Ss) (K : St → Prop) (st : St), wps P s K st → ∃ l : Log, l.length = s.len ∧ ∀ lg, wpsL P s (fun st' l' => K st' ∧ l' = lg ++ l) st lg
  | .nil, K, st, h => ⟨[], rfl, fun lg => ⟨h, by simp⟩⟩
  | .op d o r, K, st, h => by
    simp only [wps] at h
    split at h
    · rename_i x hx
      obtain ⟨l, h1, h2⟩ := wps_log r K _ h.2
      refine ⟨(rd (get st.tm) (d.getD 0) o, x.ups.map (·.1)) :: l, by simp [Ss.len, h1], fun lg => ?_⟩
      simp only [wpsL, hx]
      refine ⟨h.1, wpsL_mono ?_ r _ _ (h2 _)⟩
      rintro st' l' ⟨q1, q2⟩
      exact ⟨q1, by rw [q2, List.append_assoc]; rfl⟩
    · exact h.elim
  | .call d f args r, K, st, h => by
    simp only [wps] at h
    split at h
    · rename_i f' vs hx
      obtain ⟨T, v, ups, hp, g1, g2, g3, g4⟩ := h
      obtain ⟨l, h1, h2⟩ := wps_log r K _ g4
      refine ⟨(T.map (·.1), ups.map (·.1)) :: l, by simp [Ss.len, h1], fun lg => ?_⟩
      simp only [wpsL, hx]
      refine ⟨T, v, ups, hp, g1, g2, g3, wpsL_mono ?_ r _ _ (h2 _)⟩
      rintro st' l' ⟨q1, q2⟩
      exact ⟨q1, by rw [q2, List.append_assoc]; rfl⟩
    · exact h.elim
  | .sc c b body y d r, K, st, h => by
    simp only [wps] at h
    split at h
    · rename_i x hx
      obtain ⟨yv, hp, hbody, hskip, hrest⟩ := h
      obtain ⟨l, h1, h2⟩ := wps_log r K _ hrest
      have hb : ∃ lb : Log, lb.length = body.len ∧ (x = b → wpsL P body (fun st' l' => val (get st'.tm) y = some (.d (.bool yv)) ∧ st'.hp = hp ∧ l' = lb) st []) := by
        by_cases e : x = b
        · obtain ⟨lb, q1, q2⟩ := wps_log body _ st (hbody e)
          refine ⟨lb, q1, fun _ => wpsL_mono ?_ body _ _ (q2 [])⟩
          rintro st' l' ⟨⟨r1, r2⟩, r3⟩
          exact ⟨r1, r2, by simpa using r3⟩
        · exact ⟨List.replicate body.len ([], []), by simp, fun h => absurd h e⟩
      obtain ⟨lb, q1, q2⟩ := hb
      refine ⟨lb ++ ([], []) :: l, by simp [Ss.len, h1, q1], fun lg => ?_⟩
      simp only [wpsL, hx]
      refine ⟨yv, hp, lb, q1, q2, hskip, wpsL_mono ?_ r _ _ (h2 _)⟩
      rintro st' l' ⟨r1, r2⟩
      exact ⟨r1, by rw [r2]; simp⟩
    · exact h.elim

theorem chain_facts {ops : Array Oper} {l : List Nat} {fs : List Fo} {lg : Log} {τ τ' : Tmps} {H H' : Heap} {E : List En} (h : Chain P N ops l fs lg τ H E τ' H') :
    E.length = l.length ∧ fs.length = l.length ∧ lg.length = l.length ∧ τ' = foldT τ E ∧ H' = foldH H E ∧
      (∀ (j : Nat) i o e, l[j]? = some i → ops[i]? = some o → E[j]? = some e → Do P N ops o (foldT τ (E.take j)) (foldH H (E.take j)) e) ∧ ∀ (j : Nat) f g e, fs[j]? = some f → lg[j]? = some g → E[j]? = some e → Al f g e := by
  induction h with
  | nil τ H => exact ⟨rfl, rfl, rfl, rfl, rfl, by simp, by simp⟩
  | cons i o l f fs g lg τ H e E τ' H' ho hd ha hc ih =>
    obtain ⟨i1, i2, i3, i4, i5, i6, i7⟩ := ih
    refine ⟨by simp [i1], by simp [i2], by simp [i3], by rw [i4]; rfl, by rw [i5]; rfl, ?_, ?_⟩
    · intro j i' o' e' h1 h2 h3
      cases j with
      | zero =>
        simp only [List.getElem?_cons_zero, Option.some.injEq] at h1 h3
        subst h1 h3
        rw [ho] at h2
        cases h2
        exact hd
      | succ j => exact i6 j i' o' e' (by simpa using h1) h2 (by simpa using h3)
    · intro j f' g' e' h1 h2 h3
      cases j with
      | zero =>
        simp only [List.getElem?_cons_zero, Option.some.injEq] at h1 h2 h3
        subst h1 h2 h3
        exact ha
      | succ j => exact i7 j f' g' e' (by simpa using h1) (by simpa using h2) (by simpa using h3)

theorem sel_empty : ∀ (E : List En) (k : Nat) (L : Nat → Bool), (∀ j, L j = false) → sel L E k = []
  | [], _, _, _ => rfl
  | e :: r, k, L, h => by simp only [sel, h k]; exact sel_empty r (k + 1) L h

/-- a region that draws -/
theorem region_any {id : Nat} {ops : Array Oper} {s : Ss} {un : List (Nat × Nat)} {Q : Exit → St → Prop} (hm : P.follows .mixedOrders = true) (htr : trSs P N ops (2 * ops.size + 2) none [] (List.range ops.size) = some (s, []))
    (hed : edgesOK ops.toList = true) (hsep : sepOK (closure ops.toList []) (fl [] s) un = true) (hw : wpsL P s (fun st lg => apartAll lg un = true ∧ Q .normal st) st []) (hs : Sat E N st a w β A) :
    (Code.region id ops true).wpIn (FW ro) n P (At E N Q) a w := by
  refine wpIn_region_any hm ?_
  obtain ⟨pre, Es, lg, τ', st', h1, h2, ⟨h3, h4⟩, h5, h6⟩ := txt_ok _ none [] _ s [] _ st [] (get st.tm) htr (by simp) hw (fun _ _ h => h)
  rw [List.append_nil] at h1
  subst h1
  obtain ⟨f1, f2, f3, f4, f5, f6, f7⟩ := chain_facts h2
  rw [List.length_range] at f1 f2 f3
  have hdr : Stp β A w (get st.hp) β A { w with drawn := w.drawn + 1 } (get st.hp) := Stp.draw hs.core rfl rfl rfl rfl
  have hL0 : ∀ j, (Array.replicate ops.size false).getD j false = false := by
    intro j
    simp only [Array.getD_eq_getD_getElem?, Array.getElem?_replicate]
    split <;> rfl
  refine any_ok (τ := get st.tm) (H := get st.hp) f1 f2 f3 (fun i o e ho he => f6 i i o e (by
      have : i < ops.size := (Array.getElem?_eq_some_iff.1 ho).1
      simp [this]) ho he) f7 hsep hed (by simpa using h3) (β0 := β) (A0 := A) (w0 := w) (ds := a.defers) ?_ ops.size _ a _ β A (by simp) ?_ ?_ ?_ ?_ rfl
  · intro a' w' β' A' hs' hst' hd'
    rw [← f4, ← f5] at hs'
    rw [← f5] at hst'
    refine ⟨st', β', A', h4, ?_⟩
    exact hs.step hst' ⟨hs'.core, fun t v ht => hs'.tmps t v (h5 t v ht), hs'.size⟩ hd'
  · intro i o _ hL
    simp only [hL0] at hL
    cases hL
  · exact Nat.le_trans (List.length_filter_le _ _) (by simp)
  · rw [sel_empty _ _ _ hL0]
    exact ⟨hdr.core, fun t v ht => by obtain ⟨u, q1, q2⟩ := hs.tmps t v ht; exact ⟨u, q1, hdr.vals _ _ q2⟩, hs.size⟩
  · rw [sel_empty _ _ _ hL0]
    exact hdr

theorem val_noneG {H : Heap} {i : Nat} (hi : H i = none) (c : Av) (u : Value)
    (hcase : (∃ off, c = .ref i off) ∨ (∃ ver, c = .ms i ver) ∨ (∃ ver off len, c = .sub i ver off len) ∨ (∃ ver k off, c = .el i ver k off) ∨ c = .mp i ∨ (∃ h, c = .tr i h)) (hvr : VRep β A w H c u) : False := by
  rcases hcase with ⟨off, rfl⟩ | ⟨ver, rfl⟩ | ⟨ver, off, len, rfl⟩ | ⟨ver, k, off, rfl⟩ | rfl | ⟨h, rfl⟩ <;> cases hvr <;> simp_all

theorem val_none {H : Heap} {i : Nat} (hi : H i = none) (c : Av) (u : Value)
    (hcase : (∃ off, c = .ref i off) ∨ (∃ ver, c = .ms i ver) ∨ (∃ ver off len, c = .sub i ver off len) ∨ (∃ ver k off, c = .el i ver k off) ∨ c = .mp i) (hvr : VRep β A w H c u) : False := by
  rcases hcase with ⟨off, rfl⟩ | ⟨ver, rfl⟩ | ⟨ver, off, len, rfl⟩ | ⟨ver, k, off, rfl⟩ | rfl <;> cases hvr <;> simp_all

/-- values of an object that is gone -/
theorem val_gone {H H' : Heap} {β' : Blocks} {A' : Nat → Prop} {w' : World} {i : Nat} (hi : H' i = some .gone) (c : Av) (u : Value)
    (hcase : (∃ off, c = .ref i off) ∨ (∃ ver, c = .ms i ver) ∨ (∃ ver off len, c = .sub i ver off len) ∨ (∃ ver k off, c = .el i ver k off) ∨ c = .mp i) (hvr : VRep β A w H c u) : VRep β' A' w' H' c u := by
  rcases hcase with ⟨off, rfl⟩ | ⟨ver, rfl⟩ | ⟨ver, off, len, rfl⟩ | ⟨ver, k, off, rfl⟩ | rfl
  · cases hvr with | ref _ _ b p _ hu h0 h1 h2 => exact .ref _ _ b p _ hu (by rw [hi]; rfl) (by rw [hi]; intro _ h; cases h) (by rw [hi]; intro _ h; cases h)
  · cases hvr with | ms _ _ _ hu h0 h1 h2 => exact .ms _ _ _ hu (by rw [hi]; rfl) (by rw [hi]; intro _ _ _ h; cases h) (by rw [hi]; intro _ _ h; cases h)
  · cases hvr with | sub _ _ _ _ _ hu h0 h1 h2 => exact .sub _ _ _ _ _ hu (by rw [hi]; rfl) (by rw [hi]; intro _ _ _ h; cases h) (by rw [hi]; intro _ _ h; cases h)
  · cases hvr with | el _ _ _ _ b p _ hu h0 h1 => exact .el _ _ _ _ b p _ hu (by rw [hi]; rfl) (by rw [hi]; intro _ _ _ h; cases h)
  · cases hvr with | mp _ _ hu h0 h1 h2 h3 => exact .mp _ _ hu (by rw [hi]; rfl) (by rw [hi]; intro _ h; cases h) (by rw [hi]; intro _ h; cases h) (by rw [hi]; intro _ _ h; cases h)

/-- a loop's record in memory is laid: a new object -/
theorem Stp.lpNew {H : Heap} (hc : Core β A w H) {lid : Nat} (hlid : H lid = none) {l : Lp} {r : Loop} {w' : World} {l0 : Nat} (hos : w'.os = w.os) (htape : w'.tape = w.tape) (hout : w'.output = w.output)
    (hl0 : w.heap.size ≤ l0) (hrec : w'.heap[l0]? = some (.loop r)) (hsame : ∀ b, b < w.heap.size → w'.heap[b]? = w.heap[b]?) (hr : r.state = l.s ∧ r.pending = l.j ∧ r.params = l.ps ∧ r.assign = l.asg ∧ r.body = l.body ∧ r.tmps.size = l.N)
    (ht : ∀ t v, get l.tm t = some v → ∃ u, r.tmps[t]? = some u ∧ VRep β A w H v u) : Stp β A w H (upd β lid (some l0)) A w' (upd H lid (some (.lp l))) := by
  have hlt : l0 < w'.heap.size := (Array.getElem?_eq_some_iff.1 hrec).1
  refine Stp.one hc lid (.lp l) (some l0) hos htape hout (by omega) (fun b hb _ => hsame b hb) (fun _ h => h) (fun _ h => .inl h) (fun b hb => by have := hc.old b hb; omega) ?_
    (fun c u hcase hvr => (val_none hlid c u hcase hvr).elim) ?_ (by rw [hlid]; intro l h; cases h)
  · intro b hb _
    cases hb
    exact ⟨.inl hl0, fun h => by have := hc.old _ h; omega⟩
  · intro hall
    obtain ⟨g1, g2, g4, g5, g6, g7⟩ := hr
    refine ⟨l0, r, upd_same _ _ _, hrec, g1, g2, g4, g5, g6, g7, fun t v htv => ?_⟩
    obtain ⟨u, q1, q2⟩ := ht t v htv
    exact ⟨u, q1, hall _ _ q2⟩

/-- a loop's record in memory is changed -/
theorem Stp.lpSet {H : Heap} (hc : Core β A w H) {lid : Nat} {l l' : Lp} (hlid : H lid = some (.lp l)) {r : Loop} {l0 : Nat} (hb : β lid = some l0) (hl0 : l0 < w.heap.size)
    (hr : r.state = l'.s ∧ r.pending = l'.j ∧ r.params = l'.ps ∧ r.assign = l'.asg ∧ r.body = l'.body ∧ r.tmps.size = l'.N)
    (ht : ∀ t v, get l'.tm t = some v → ∃ u, r.tmps[t]? = some u ∧ VRep β A w H v u) : Stp β A w H β A (w.putObj l0 (.loop r)) (upd H lid (some (.lp l'))) := by
  have hβ : upd β lid (some l0) = β := funext fun j => by unfold upd; split; rename_i e; rw [e, hb]; rfl
  have := Stp.one (w' := w.putObj l0 (.loop r)) (A' := A) hc lid (.lp l') (some l0) rfl rfl rfl (by simp) (fun b _ hn => World.putObj_heap_other (fun e => hn _ hlid rfl (by rw [hb, e])))
    (fun _ h => h) (fun _ h => .inl h) (fun b hb => by simpa using hc.old b hb) (fun b e _ => by cases e; exact ⟨.inr ⟨_, hlid, rfl, hb⟩, hc.sep1 _ _ _ hlid rfl hb⟩)
    (fun c u hcase hvr => by
      rw [hβ]
      rcases hcase with ⟨off, rfl⟩ | ⟨ver, rfl⟩ | ⟨ver, off, len, rfl⟩ | ⟨ver, k, off, rfl⟩ | rfl
      · cases hvr with | ref _ _ b p _ hu h0 h1 h2 => exact .ref _ _ b p _ hu (by simp [upd]) (by simp [upd]) (by simp [upd])
      · cases hvr with | ms _ _ _ hu h0 h1 h2 => exact .ms _ _ _ hu (by simp [upd]) (by simp [upd]) (by simp [upd])
      · cases hvr with | sub _ _ _ _ _ hu h0 h1 h2 => exact .sub _ _ _ _ _ hu (by simp [upd]) (by simp [upd]) (by simp [upd])
      · cases hvr with | el _ _ _ _ b p _ hu h0 h1 => exact .el _ _ _ _ b p _ hu (by simp [upd]) (by simp [upd])
      · cases hvr with | mp _ _ hu h0 h1 h2 h3 => exact .mp _ _ hu (by simp [upd]) (by simp [upd]) (fun _ _ => h2 _ hlid) (by simp [upd]))
    (fun hall => by
      obtain ⟨g1, g2, g4, g5, g6, g7⟩ := hr
      refine ⟨l0, r, upd_same _ _ _, World.putObj_heap_same hl0, g1, g2, g4, g5, g6, g7, fun t v htv => ?_⟩
      obtain ⟨u, q1, q2⟩ := ht t v htv
      exact ⟨u, q1, hall _ _ q2⟩)
    (fun l2 _ b hb2 => by rw [hb] at hb2; cases hb2; exact ⟨r, World.putObj_heap_same hl0⟩)
  rwa [hβ] at this

/-- a loop's record in memory is left -/
theorem Stp.lpEnd {H : Heap} (hc : Core β A w H) {lid : Nat} {l : Lp} (hlid : H lid = some (.lp l)) {r : Loop} {l0 : Nat} (hb : β lid = some l0) (hl0 : l0 < w.heap.size) :
    Stp β A w H (upd β lid (none : Option Nat)) A (w.putObj l0 (.loop r)) (upd H lid (some .gone)) :=
  Stp.one (w' := w.putObj l0 (.loop r)) (A' := A) hc lid .gone none rfl rfl rfl (by simp) (fun b _ hn => World.putObj_heap_other (fun e => hn _ hlid rfl (by rw [hb, e])))
    (fun _ h => h) (fun _ h => .inl h) (fun b hb => by simpa using hc.old b hb) (fun b e _ => by cases e)
    (fun c u hcase hvr => val_gone (upd_same _ _ _) c u hcase hvr) (fun _ => trivial)
    (fun l2 _ b hb2 => by rw [hb] at hb2; cases hb2; exact ⟨r, World.putObj_heap_same hl0⟩)

theorem hputs_upd_ne (ups : List (Nat × Obj)) (H : Heap) (lid i : Nat) (o : Option Obj) (h : i ≠ lid) : hputs (upd H lid o) ups i = hputs H ups i := hputs_eq ups (upd_ne _ _ h)

/-- the record of the loop -/
abbrev recOf (fn : Nat) (tmps : Array Value) (ps : Array Nat) (c1 c2 : Code) (d : Nat) : Loop := { state := .ready, pending := none, fn, tmps, params := ps, assign := c1, body := c2, defers := d }

/-- a loop over a function is entered -/
theorem enter_ok {ro : Option Nat} (fn : Nat) (tmps : Array Value) (ps : Array Nat) (c1 c2 : Code) (hround : ∀ l, ro = some l → ∃ r, w.heap[l]? = some (.loop r)) :
    ∃ (l0 : Nat) (mark : List Deferred) (w1 : World) (ms' : List Nat), (Instr.enterLoop fn tmps ps c1 c2 ro).run P w = .ok (l0, mark) w1 ∧ w.heap.size ≤ l0 ∧ (∃ d, w1.heap[l0]? = some (.loop (recOf fn tmps ps c1 c2 d))) ∧
      (∀ b, b < w.heap.size → w1.heap[b]? = w.heap[b]?) ∧ w1.os = w.os ∧ w1.tape = w.tape ∧ w1.output = w.output ∧ mark = ms'.map (fun r => ({ target := .collected r, args := #[] } : Deferred)) ∧ ms'.Nodup ∧
      ∀ r ∈ ms', w.heap.size ≤ r ∧ r ≠ l0 ∧ w1.heap[r]? = some (.deferred (some [])) := by
  cases ro with
  | none =>
    refine ⟨w.heap.size + 1, _, (w.alloc (.deferred (some []))).alloc (.loop (recOf fn tmps ps c1 c2 w.heap.size)), [w.heap.size], run_enterLoop_outer fn tmps ps c1 c2, by omega, ⟨w.heap.size, ?_⟩, ?_, rfl, rfl, rfl, rfl, by simp, ?_⟩
    · have := World.alloc_heap_new (w.alloc (.deferred (some []))) (.loop (recOf fn tmps ps c1 c2 w.heap.size))
      rw [World.size_alloc] at this
      exact this
    · intro b hb
      rw [Go.RowKit.Below.heap_alloc _ _ b (by rw [World.size_alloc]; omega), Go.RowKit.Below.heap_alloc _ _ b hb]
    · intro r hr
      simp only [List.mem_singleton] at hr
      subst hr
      refine ⟨Nat.le_refl _, by omega, ?_⟩
      rw [Go.RowKit.Below.heap_alloc _ _ _ (by rw [World.size_alloc]; omega)]
      exact World.alloc_heap_new w _
  | some l' =>
    obtain ⟨r', hr'⟩ := hround l' rfl
    refine ⟨w.heap.size, [], w.alloc (.loop (recOf fn tmps ps c1 c2 r'.defers)), [], ?_, Nat.le_refl _, ⟨r'.defers, World.alloc_heap_new w _⟩, ?_, rfl, rfl, rfl, rfl, by simp, by simp⟩
    · unfold Instr.enterLoop
      simp only [Sem.run_bind, run_getLoop hr', run_newObj_alloc, Result.andThen, Sem.run_pure]
    · intro b hb
      exact Go.RowKit.Below.heap_alloc _ _ b hb

/-- the function that is ranged over, with yield -/
theorem yielder_ok {H H1 : Heap} {β1 : Blocks} {w1 : World} {f : Opd} {g : Operand} {lid l0 : Nat} {gN : Nat} {vs : List Av} (h0 : opd P 0 g = some f) (hts : TRep β A w H (get st.tm) a) (htg : targetV (get st.tm) (.dyn f) [.mp lid] = some (.fn gN, vs))
    (hvals : ∀ c u, VRep β A w H c u → VRep β1 A w1 H1 c u) (hyv : VRep β1 A w1 H1 (.mp lid) (.func (.yield l0) #[] #[])) :
    ∃ a1 a2, a.eval g = .func (.func gN) a1 a2 ∧ VReps β1 A w1 H1 vs (a1 ++ #[.func (.yield l0) #[] #[]] ++ a2) := by
  have clo : ∀ (fs cs : List Av) (a1 a2 : Array Value), vs = fs ++ [.mp lid] ++ cs → fs.length = a1.size → cs.length = a2.size →
      (∀ (i : Nat) c v, fs[i]? = some c → a1[i]? = some v → VRep β A w H c v) → (∀ (i : Nat) c v, cs[i]? = some c → a2[i]? = some v → VRep β A w H c v) →
      VReps β1 A w1 H1 vs (a1 ++ #[.func (.yield l0) #[] #[]] ++ a2) := by
    intro fs cs a1 a2 hvs l1 l2 r1 r2
    refine ⟨by rw [hvs]; simp; omega, ?_⟩
    subst hvs
    intro i c v hc hv
    rw [← Array.getElem?_toList, Array.toList_append, Array.toList_append] at hv
    by_cases h1 : i < fs.length
    · rw [List.append_assoc, List.getElem?_append_left h1] at hc
      rw [List.append_assoc, List.getElem?_append_left (by simp; omega)] at hv
      exact hvals _ _ (r1 i c v hc (by simpa using hv))
    · by_cases h2 : i < fs.length + 1
      · have hi : i = fs.length := by omega
        subst hi
        rw [List.append_assoc, List.getElem?_append_right (by omega)] at hc
        rw [List.append_assoc, List.getElem?_append_right (by simp; omega)] at hv
        simp [l1] at hc hv
        rw [← hc, ← hv]
        exact hyv
      · rw [List.getElem?_append_right (by simp; omega)] at hc
        rw [List.getElem?_append_right (by simp; omega)] at hv
        refine hvals _ _ (r2 _ c v hc ?_)
        rw [← hv, Array.getElem?_toList]
        congr 1
        simp
        omega
  unfold targetV at htg
  cases ex : val (get st.tm) f with
  | none => simp [ex] at htg
  | some c =>
    have hc := opd_ok h0 ex hts
    simp only [ex] at htg
    split at htg
    · rename_i k fs cs hcc
      simp only [Option.some.injEq, Prod.mk.injEq, Cee.fn.injEq] at htg hcc
      obtain ⟨rfl, rfl⟩ := htg
      subst hcc
      have hr := hc.of_d
      generalize hgu : a.eval g = u at *
      cases hr with
      | fn _ _ _ a1 a2 l1 l2 r1 r2 =>
        refine ⟨a1, a2, rfl, clo (fs.map .d) (cs.map .d) a1 a2 rfl (by simpa using l1) (by simpa using l2) ?_ ?_⟩
        · intro i c v h1 h2
          rw [List.getElem?_map] at h1
          cases e1 : fs[i]? with
          | none => simp [e1] at h1
          | some y => simp only [e1, Option.map_some, Option.some.injEq] at h1; subst h1; exact .d _ _ (r1 i y v e1 h2)
        · intro i c v h1 h2
          rw [List.getElem?_map] at h1
          cases e1 : cs[i]? with
          | none => simp [e1] at h1
          | some y => simp only [e1, Option.map_some, Option.some.injEq] at h1; subst h1; exact .d _ _ (r2 i y v e1 h2)
    · rename_i k fs cs hcc
      simp only [Option.some.injEq, Prod.mk.injEq, Cee.fn.injEq] at htg hcc
      obtain ⟨rfl, rfl⟩ := htg
      subst hcc
      generalize hgu : a.eval g = u at *
      cases hc with
      | clo _ _ _ a1 a2 l1 l2 r1 r2 => exact ⟨a1, a2, rfl, clo fs cs a1 a2 rfl l1 l2 r1 r2⟩
    · simp at htg
    · simp at htg

/-- a range over a function -/
theorem rng_ok {lid : Nat} {f : Opd} {g : Operand} {ps : Array Nat} {c1 c2 : Code} {asg body : Ic} {Q : Exit → St → Prop} (h0 : opd P 0 g = some f) (h1 : trCode P N c1 = some (strip asg)) (h2 : trCode P N c2 = some (strip body))
    (hw : wpc P E.D (.rng f N lid ps c1 c2 asg body) Q st) (hs : Sat E N st a w β A) : (Code.rangeFunc g ps c1 c2).wpIn (FW E.ro) n P (At E N Q) a w := by
  obtain ⟨hlid, hw⟩ := hw
  refine wpIn_rangeFunc (fun fn _ => ?_)
  have hw := hw h1 h2
  generalize hL : ({ tm := st.tm, N := N, ps := ps, asg := c1, body := c2, s := .ready, j := none } : Lp) = L at hw
  obtain ⟨l0, mark, w1, ms', e1, e2, ⟨dd, e3⟩, e4, e5, e6, e7, e8, e9, e10⟩ := enter_ok (P := P) fn a.tmps ps c1 c2 hs.round
  have st1 : Stp β A w (get st.hp) (upd β lid (some l0)) A w1 (upd (get st.hp) lid (some (.lp L))) := by
    subst hL
    exact Stp.lpNew hs.core hlid e5 e6 e7 e2 e3 e4 ⟨rfl, rfl, rfl, rfl, rfl, hs.size⟩ hs.tmps
  have hyv : VRep (upd β lid (some l0)) A w1 (upd (get st.hp) lid (some (.lp L))) (.mp lid) (.func (.yield l0) #[] #[]) :=
    .mp _ _ rfl (by simp [upd]) (by simp [upd]) (fun l _ => ⟨l0, upd_same _ _ _, rfl⟩) (by simp [upd])
  -- the function
  split at hw
  case h_2 => exact hw.elim
  rename_i gN vs htg
  obtain ⟨T, v, ups, hhas, hcok, hT, hp, l, hhp, hgone, hlp, hbusy, hj⟩ := hw
  have hT' : ∀ e ∈ T, upd (get st.hp) lid (some (.lp L)) e.1 = e.2 := by
    clear hcok
    induction T with
    | nil => simp
    | cons e T ih => intro e' he'; rcases List.mem_cons.1 he' with rfl | h; exact hT.1; exact ih hT.2 e' h
  obtain ⟨a1, a2, hev, hvs⟩ := yielder_ok h0 hs.tmps htg st1.vals hyv
  have hcall : Calls P gN (a1 ++ #[.func (.yield l0) #[] #[]] ++ a2) w1 fun e w' => ∃ u, e = .returned u ∧ ∃ β' A', Stp (upd β lid (some l0)) A w1 (upd (get st.hp) lid (some (.lp L))) β' A' w' (hputs (upd (get st.hp) lid (some (.lp L))) ups) ∧
      VRep β' A' w' (hputs (upd (get st.hp) lid (some (.lp L))) ups) v u := by
    rcases hcok _ A w1 _ _ hT' st1.core hvs with ⟨_, h⟩ | ⟨u, w', h, _⟩
    · exact h
    · rw [callFunc_run hhas] at h; cases h
  refine ⟨l0, mark, w1, { target := .fn (.func gN) a2, args := a1 ++ #[.func (.yield l0) #[] #[]] }, w1, gN, a1 ++ #[.func (.yield l0) #[] #[]] ++ a2, w1, ?_, ?_, ?_, ?_, ?_, ?_⟩
  · exact e1
  · show ((Deferred.ofValue (a.eval g) (#[.const (.func (.yield l0) #[] #[])].map a.eval)).run P w1) = _
    rw [hev]; simp only [Deferred.ofValue, Sem.run_pure, List.map_toArray, List.map_cons, List.map_nil, Act.eval]
  · exact fun _ _ => trivial
  · exact callFunc_run hhas _ _
  · intro h; cases h
  refine callsIn_FW (hcall.mono ?_)
  rintro e w3 ⟨u, rfl, β3, A3, st3, hv3⟩
  have hy3 := st3.vals _ _ hyv
  have hb3 : β3 lid = some l0 := by
    cases hy3 with
    | mp _ _ _ _ _ h2 _ =>
      obtain ⟨b, q1, q2⟩ := h2 l hlp
      cases q2
      exact q1
  obtain ⟨b, r3, g1, g2, g3, g4, g6, g7, g8, g9, g10⟩ := st3.core.objs _ _ hlp
  rw [hb3] at g1
  cases g1
  have hlt3 : l0 < w3.heap.size := (Array.getElem?_eq_some_iff.1 g2).1
  refine ⟨l.j, w3.putObj l0 (.loop { r3 with state := .exhausted }), by rw [← g4]; exact run_endLoop g2 (by rw [g3]; exact hbusy), ?_⟩
  have st4 := Stp.lpEnd (r := { r3 with state := .exhausted }) st3.core hlp hb3 hlt3
  have hend : upd (hputs (upd (get st.hp) lid (some (.lp L))) ups) lid (some .gone) = get hp := by
    funext i
    by_cases e : i = lid
    · subst e; rw [upd_same, hgone]
    · rw [upd_ne _ _ e, hhp i e, hputs_upd_ne _ _ _ _ _ e]
  rw [hend] at st4
  have st34 := st3.trans st4
  have st14 := st1.trans st34
  have hm1 : Marks E { a with defers := mark ++ a.defers } w1 (upd β lid (some l0)) A (upd (get st.hp) lid (some (.lp L))) := by
    obtain ⟨ms, q0, q1, q2⟩ := hs.marks
    have hold : ∀ r ∈ ms, r < w.heap.size := fun r hr => (Array.getElem?_eq_some_iff.1 (q2 r hr).2.1).1
    refine ⟨ms' ++ ms, ?_, by simp [e8, q1], ?_⟩
    · rw [List.nodup_append]
      refine ⟨e9, q0, ?_⟩
      intro x hx y hy e
      subst e
      have := (e10 x hx).1
      have := hold x hy
      omega
    · intro r hr
      rcases List.mem_append.1 hr with hr | hr
      · obtain ⟨p1, p2, p3⟩ := e10 r hr
        refine ⟨Nat.le_trans hs.since.size p1, p3, fun h => by have := hs.core.old r h; omega, ?_⟩
        intro i o hi ho hb
        by_cases e : i = lid
        · subst e; rw [upd_same] at hb; cases BK.has_one.1 hb; exact p2 rfl
        · rw [upd_ne _ _ e] at hi hb
          have := hs.core.lt hi ho hb
          omega
      · obtain ⟨p1, p2, p3, p4⟩ := q2 r hr
        have hlt := hold r hr
        refine ⟨p1, by rw [e4 r hlt]; exact p2, p3, ?_⟩
        intro i o hi ho hb
        by_cases e : i = lid
        · subst e; rw [upd_same] at hb; cases BK.has_one.1 hb; omega
        · rw [upd_ne _ _ e] at hi hb
          exact p4 i o hi ho hb
  have hsat : Sat E N ⟨st.tm, hp⟩ { a with defers := mark ++ a.defers } (w3.putObj l0 (.loop { r3 with state := .exhausted })) (upd β3 lid (none : Option Nat)) A3 := by
    refine ⟨st4.core, ?_, hs.size, hs.since.trans st14, hm1.step st34 rfl, fun l hl => by obtain ⟨r, hr⟩ := hs.round l hl; exact st14.loops l r hr⟩
    intro t v ht
    obtain ⟨u, q1, q2⟩ := hs.tmps t v ht
    exact ⟨u, q1, st14.vals _ _ q2⟩
  split at hj
  · rename_i hj0; rw [hj0]; exact ⟨_, _, _, hj, hsat⟩
  · rename_i hj0; rw [hj0]; exact wpIn_ret ⟨_, _, _, hj, hsat⟩
  · rename_i id hj0; rw [hj0]; exact wpIn_exit ⟨_, _, _, hj, hsat⟩
  · exact hj.elim

theorem stepR_scope {b : Frame} {a : Act} {k : List Item} {cs : List Frame} {w : World} {c : Code} : Go.step P (lone (b.atR a (.code (.scope c) :: k)) cs w) = .next (lone (b.atR a (.code c :: .inScope c :: k)) cs w) :=
  Go.step_lone_go (by simp [Go.stepG, Go.stepG.exec, Frame.atR])
theorem stepR_inScope {b : Frame} {a : Act} {k : List Item} {cs : List Frame} {w : World} {c : Code} : Go.step P (lone (b.atR a (.inScope c :: k)) cs w) = .next (lone (b.atR a k) cs w) :=
  Go.step_lone_go (by simp [Go.stepG, Go.stepG.exec, Frame.atR])

theorem wpIn_scope {F : Fence} {n : Nat} {Q : Exit → Act → World → Prop} {a : Act} {w : World} {c : Code} (h : c.wpIn F n P (fun e a w => (∀ l, e ≠ .goto l) ∧ Q e a w) a w) : (Code.scope c).wpIn F n P Q a w := by
  intro b k cs hro hb hr
  have h0 : (lone (b.atR a (.code (.scope c) :: k)) cs w).fenced P F := fenced_calm hb hr rfl
  obtain ⟨e, a₁, w₁, ⟨hne, hq⟩, harr⟩ := h b (.inScope c :: k) cs hro hb hr
  cases e with
  | normal => exact ⟨.normal, a₁, w₁, hq, .head h0 stepR_scope (StepsIn.trans harr (.one (fenced_calm hb hr rfl) stepR_inScope))⟩
  | exit id' =>
    have hx : exitTo id' (.inScope c :: k) = exitTo id' k := by simp [exitTo]
    exact ⟨.exit id', a₁, w₁, hq, fun k' hk => .head h0 stepR_scope (harr.1 k' (by rw [hx]; exact hk)),
      fun hr' hk => let ⟨k₁, h1, h2⟩ := harr.2 hr' (by rw [hx]; exact hk); ⟨k₁, h1, .head h0 stepR_scope h2⟩⟩
  | goto l => exact absurd rfl (hne l)
  | ret => exact ⟨_, a₁, w₁, hq, .of_steps (.one h0 stepR_scope) harr⟩
  | panic ch => exact ⟨_, a₁, w₁, hq, .of_steps (.one h0 stepR_scope) harr⟩
  | outgrown => exact ⟨_, a₁, w₁, hq, .of_steps (.one h0 stepR_scope) harr⟩

theorem code_ok : ∀ (ic : Ic) (code : Code) (Q : Exit → St → Prop) (st : St) (a : Act) (w : World) (β : Blocks) (A : Nat → Prop), trCode P N code = some (strip ic) → wpc P E.D ic Q st → Sat E N st a w β A →
    code.wpIn (FW E.ro) n P (At E N Q) a w := by
  intro ic
  induction ic with
  | skip =>
    intro code Q st a w β A h hw hs
    have e : code = .skip := trCode_inv h
    subst e
    exact wpIn_skip ⟨st, β, A, hw, hs⟩
  | reg s =>
    intro code Q st a w β A h hw hs
    obtain ⟨id, ops, draw, rfl, htr, hdraw⟩ := trCode_inv h
    cases draw with
    | true =>
      obtain ⟨hm, hed, hsep⟩ := hdraw rfl
      obtain ⟨l, _, hl⟩ := wps_log s _ st hw
      exact region_any hm htr hed hsep (wpsL_mono (fun st' l' h => ⟨rfl, h.1⟩) s st [] (hl [])) hs
    | false =>
    refine wpIn_region ?_
    refine seq_ok _ none [] _ s [] _ st a w β A htr (by simp) hw hs.b ?_
    intro a' w' β' A' st' hK hst hs' _ hd
    exact ⟨st', β', A', hK, hs.step hst hs' hd⟩
  | regd un s =>
    intro code Q st a w β A h hw hs
    obtain ⟨id, ops, rfl, htr, hm, hed, hsep⟩ := trCode_inv h
    exact region_any hm htr hed hsep hw hs
  | dn x ts ih =>
    intro code Q st a w β A h hw hs
    refine wpIn_mono (ih code _ st a w β A h hw hs) ?_
    intro e a' w' hq
    obtain ⟨st', β', A', g1, g2⟩ := hq
    cases e with
    | normal => exact ⟨_, β', A', g1, g2.kill⟩
    | _ => exact ⟨st', β', A', g1, g2⟩
  | seq x y ihx ihy =>
    intro code Q st a w β A h hw hs
    obtain ⟨cx, cy, rfl, h1, h2⟩ := trCode_inv h
    refine wpIn_seq (wpIn_mono (ihx cx _ st a w β A h1 hw hs) ?_)
    intro e a' w' hq
    cases e with
    | normal => obtain ⟨st', β', A', g1, g2⟩ := hq; exact ihy cy Q st' a' w' β' A' h2 g1 g2
    | _ => exact hq
  | ite c x y ihx ihy =>
    intro code Q st a w β A h hw hs
    obtain ⟨c', cx, cy, rfl, h0, h1, h2⟩ := trCode_inv h
    simp only [wpc] at hw
    split at hw
    case h_2 => exact hw.elim
    rename_i b hb
    have hv := (opd_ok h0 hb hs.tmps).of_d
    have hc : a.eval c' = .bool b := by generalize a.eval c' = u at hv; cases hv; rfl
    refine wpIn_cond hc ?_
    cases b with
    | true => exact ihx cx Q st a w β A h1 (hw.1 rfl) hs
    | false => exact ihy cy Q st a w β A h2 (hw.2 rfl) hs
  | block id x ih =>
    intro code Q st a w β A h hw hs
    obtain ⟨cx, rfl, h1⟩ := trCode_inv h
    refine wpIn_block (wpIn_mono (ih cx _ st a w β A h1 hw hs) ?_)
    intro e a' w' hq
    obtain ⟨st', β', A', g1, g2⟩ := hq
    cases e with
    | exit id' =>
      simp only [Exit.inBlock] at g1 ⊢
      split at g1
      · rename_i e; rw [if_pos e]; exact ⟨st', β', A', g1, g2⟩
      · rename_i e; rw [if_neg e]; exact ⟨st', β', A', g1, g2⟩
    | _ => exact ⟨st', β', A', g1, g2⟩
  | loop x ih =>
    intro code Q st a w β A h hw hs
    obtain ⟨cx, rfl, h1⟩ := trCode_inv h
    obtain ⟨I, ⟨n0, s0, hwk, hI0⟩, hround⟩ := hw
    refine wpIn_loop_n (fun k a w => ∃ s β A, I k s ∧ Sat E N s a w β A) ?_ ?_
    · obtain ⟨β', A', hs'⟩ := hs.wk hwk
      exact ⟨n0, s0, β', A', hI0, hs'⟩
    · rintro k a w ⟨s, β, A, hI, hs⟩
      refine wpIn_mono (ih cx _ s a w β A h1 (hround k s hI) hs) ?_
      intro e a' w' hq
      obtain ⟨st', β', A', g1, g2⟩ := hq
      cases e with
      | normal =>
        obtain ⟨m, s'', hlt, hwk', hI'⟩ := g1
        obtain ⟨β'', A'', hs''⟩ := g2.wk hwk'
        exact ⟨m, hlt, s'', β'', A'', hI', hs''⟩
      | _ => exact ⟨st', β', A', g1, g2⟩
  | exit id =>
    intro code Q st a w β A h hw hs
    have e : code = .exit id := trCode_inv h
    subst e
    exact wpIn_exit ⟨st, β, A, hw, hs⟩
  | ret =>
    intro code Q st a w β A h hw hs
    have e : code = .ret := trCode_inv h
    subst e
    exact wpIn_ret ⟨st, β, A, hw, hs⟩
  | bad => intro code Q st a w β A h hw hs; exact hw.elim
  | lab =>
    intro code Q st a w β A h hw hs
    obtain ⟨l, rfl⟩ := trCode_inv h
    exact wpIn_label ⟨st, β, A, hw, hs⟩
  | scp x ih =>
    intro code Q st a w β A h hw hs
    obtain ⟨cx, rfl, h1⟩ := trCode_inv h
    refine wpIn_scope (wpIn_mono (ih cx _ st a w β A h1 hw hs) ?_)
    intro e a' w' hq
    obtain ⟨st', β', A', g1, g2⟩ := hq
    cases e with
    | goto l => exact g1.elim
    | _ => exact ⟨fun l => by simp, st', β', A', g1, g2⟩
  | rng f N' lid ps c1 c2 x y _ _ =>
    intro code Q st a w β A h hw hs
    obtain ⟨rfl, g, rfl, h0, h1, h2, _⟩ := trCode_inv h
    exact rng_ok h0 h1 h2 hw hs
end
end Av

namespace Av
open Go
variable [Glb] [Rls]

mutual
def Av.ren (ρ : Nat → Nat) : Av → Av
  | .ref i off => .ref (ρ i) off
  | .ms i ver => .ms (ρ i) ver
  | .sub i ver off len => .sub (ρ i) ver off len
  | .el i ver k off => .el (ρ i) ver k off
  | .mp i => .mp (ρ i)
  | .tr i h => .tr (ρ i) h
  | .agg cs => .agg (renL ρ cs)
  | .tup cs => .tup (renL ρ cs)
  | .clo f a b => .clo f (renL ρ a) (renL ρ b)
  | .d x => .d x
  | .any => .any
  | .und => .und
def renL (ρ : Nat → Nat) : List Av → List Av
  | [] => []
  | c :: r => c.ren ρ :: renL ρ r
end
theorem renL_map (ρ : Nat → Nat) : ∀ cs : List Av, renL ρ cs = cs.map (Av.ren ρ)
  | [] => by simp [renL]
  | c :: r => by simp [renL, renL_map ρ r]
def renT (ρ : Nat → Nat) : List (Nat × Av) → List (Nat × Av)
  | [] => []
  | (t, c) :: r => (t, c.ren ρ) :: renT ρ r
def Obj.ren (ρ : Nat → Nat) : Obj → Obj
  | .box cs => .box (renL ρ cs)
  | .lp l => .lp { l with tm := renT ρ l.tm }
  | .row v s x => .row v s x
  | .mapo es => .mapo es
  | .fbox ds => .fbox ds
  | .frz v s x => .frz v s x
  | .gone => .gone
  | .sit s p => .sit s p
  | .tre a b c d => .tre a b c d
abbrev Av.renR (ρ : Nat → Nat) (v : Av) : Av := v.ren ρ

theorem get_renT (ρ : Nat → Nat) : ∀ (l : List (Nat × Av)) (t : Nat), get (renT ρ l) t = (get l t).map (Av.ren ρ)
  | [], _ => rfl
  | (k, c) :: r, t => by simp only [renT, get]; split; rfl; exact get_renT ρ r t

mutual
/-- the objects that a value speaks of are there -/
def idsIn (G : Nat → Option Obj) : Av → Prop
  | .ref i _ | .ms i _ | .sub i _ _ _ | .el i _ _ _ | .mp i | .tr i _ => (G i).isSome = true
  | .agg cs => idsInL G cs
  | .tup cs => idsInL G cs
  | .clo _ a b => idsInL G a ∧ idsInL G b
  | _ => True
def idsInL (G : Nat → Option Obj) : List Av → Prop
  | [] => True
  | c :: r => idsIn G c ∧ idsInL G r
end
def idsInT (G : Nat → Option Obj) : List (Nat × Av) → Prop
  | [] => True
  | e :: r => idsIn G e.2 ∧ idsInT G r
def objIn (G : Nat → Option Obj) : Obj → Prop
  | .box cs => idsInL G cs
  | .lp l => idsInT G l.tm
  | _ => True
/-- whatever objects speak of is there -/
def closed (G : Heap) : Prop := ∀ i o, G i = some o → objIn G o

theorem idsInL_get {G : Nat → Option Obj} : ∀ {cs : List Av}, idsInL G cs → ∀ (i : Nat) c, cs[i]? = some c → idsIn G c
  | [], _, i, c, h => by simp at h
  | x :: r, h, 0, c, hc => by simp only [List.getElem?_cons_zero, Option.some.injEq] at hc; subst hc; simp only [idsInL] at h; exact h.1
  | x :: r, h, i + 1, c, hc => by simp only [idsInL] at h; exact idsInL_get h.2 i c (by simpa using hc)
theorem idsInL_mem {G : Nat → Option Obj} {cs : List Av} (h : idsInL G cs) (c : Av) (hc : c ∈ cs) : idsIn G c := by
  obtain ⟨i, hi⟩ := List.getElem?_of_mem hc
  exact idsInL_get h i c hi
theorem idsInT_get {G : Nat → Option Obj} : ∀ {l : List (Nat × Av)}, idsInT G l → ∀ t c, get l t = some c → idsIn G c
  | [], _, t, c, h => by cases h
  | (k, x) :: r, h, t, c, hc => by
    simp only [get] at hc
    split at hc
    · cases hc; exact h.1
    · exact idsInT_get h.2 t c hc

abbrev inT := idsIn
abbrev inTR := idsIn

/-- a contract: of arguments and of the objects that they refer to (whose numbers are 1000 and more) -/
def Con (P : Program) (f : Nat) (args : List Av) (T : List (Nat × Obj)) (v : Av) (ups : List (Nat × Obj)) : Prop :=
  Has P f ∧ ∀ β A w vs, Core β A w (get T) → VReps β A w (get T) args vs → Calls P f vs w fun e w' => ∃ u β' A', e = .returned u ∧
    Since ⟨β, A, w, get T, D0, none⟩ β' A' w' (hputs (get T) ups) ∧ Core β' A' w' (hputs (get T) ups) ∧ VRep β' A' w' (hputs (get T) ups) v u

/-- the contract of a round: of yield's arguments and of the objects of the loop's own function; the record of the loop is one of them -/
def RCon (P : Program) (lid : Nat) (args : List Av) (T : List (Nat × Obj)) (v : Av) (ups : List (Nat × Obj)) : Prop :=
  ∀ β A w l vs, Core β A w (get T) → β lid = some l → VReps β A w (get T) args vs → ∃ fn tmps asg body, (Instr.yield l vs).run P w = .ok (.round l fn tmps asg body) w ∧
    RoundIn Fence.wide 0 P l fn tmps asg body w fun e w' => ∃ u, e = .returned u ∧ ∃ β' A',
      Since ⟨β, A, w, get T, fun i => (get T i).isSome = true, some l⟩ β' A' w' (hputs (get T) ups) ∧ Core β' A' w' (hputs (get T) ups) ∧ VRep β' A' w' (hputs (get T) ups) v u

section
variable {P : Program} {β : Blocks} {A : Nat → Prop} {w : World} {H : Heap} {ρ : Nat → Nat}

theorem ren_live (o : Obj) : (o.ren ρ).live = o.live := by cases o <;> rfl

/-- the caller's heap holds the callee's objects, under the caller's numbers -/
def Under (ρ : Nat → Nat) (G H : Heap) : Prop := ∀ i o, G i = some o → H (ρ i) = some (o.ren ρ)

theorem VRep.unren {G : Heap} (hu : Under ρ G H) {c' : Av} {u : Value} (h : VRep β A w H c' u) : ∀ c, c' = c.ren ρ → inT G c → VRep (fun i => β (ρ i)) A w G c u := by
  have lst : ∀ {cs' : List Av} {arr : Array Value}, (∀ (i : Nat) c v, cs'[i]? = some c → arr[i]? = some v → ∀ d, c = d.ren ρ → inT G d → VRep (fun i => β (ρ i)) A w G d v) → ∀ cs, cs' = renL ρ cs → idsInL G cs →
      ∀ (i : Nat) c v, cs[i]? = some c → arr[i]? = some v → VRep (fun i => β (ρ i)) A w G c v := by
    intro cs' arr ih cs hcs hin i c v hc hv
    refine ih i (c.ren ρ) v ?_ hv c rfl (idsInL_get hin i c hc)
    rw [hcs, renL_map, List.getElem?_map, hc]; rfl
  induction h with
  | d x u h => intro c hc hin; cases c <;> simp only [Av.ren] at hc <;> cases hc; exact .d _ _ h
  | ref i off b p u h1 h0 h2 h3 =>
    intro c hc hin
    cases c <;> simp only [Av.ren] at hc <;> cases hc
    refine .ref _ off b p u h1 hin ?_ ?_
    · intro cs hcs; exact h2 _ (hu _ _ hcs)
    · intro ds hds; exact h3 ds (hu _ _ hds)
  | ms i ver u h1 h0 h2 h3 =>
    intro c hc hin
    cases c <;> simp only [Av.ren] at hc <;> cases hc
    exact .ms _ ver u h1 hin (fun v' sz xs hr => h2 v' sz xs (hu _ _ hr)) (fun sz xs hr => h3 sz xs (hu _ _ hr))
  | sub i ver off len u h1 h0 h2 h3 =>
    intro c hc hin
    cases c <;> simp only [Av.ren] at hc <;> cases hc
    exact .sub _ ver off len u h1 hin (fun v' sz xs hr => h2 v' sz xs (hu _ _ hr)) (fun sz xs hr => h3 sz xs (hu _ _ hr))
  | el i ver k off b p u h1 h0 h2 =>
    intro c hc hin
    cases c <;> simp only [Av.ren] at hc <;> cases hc
    exact .el _ ver k off b p u h1 hin (fun v' sz xs hr => h2 v' sz xs (hu _ _ hr))
  | mp i u h1 h0 h2 h3 h4 =>
    intro c hc hin
    cases c <;> simp only [Av.ren] at hc <;> cases hc
    exact .mp _ u h1 hin (fun es hr => h2 es (hu _ _ hr)) (fun l hr => h3 _ (hu _ _ hr)) (fun s p hr => h4 s p (hu _ _ hr))
  | tr i h u h1 h0 hk h2 =>
    intro c hc hin
    cases c <;> simp only [Av.ren] at hc <;> cases hc
    exact .tr _ h u h1 hin hk (fun v' s' sz xs hr => h2 v' s' sz xs (hu _ _ hr))
  | agg cs arr hl h1 hv ih =>
    intro c hc hin
    cases c <;> simp only [Av.ren] at hc <;> cases hc
    rename_i cs
    exact .agg _ _ (by rw [← hl, renL_map, List.length_map]) h1 (lst ih cs rfl hin)
  | tup cs arr hl hv ih =>
    intro c hc hin
    cases c <;> simp only [Av.ren] at hc <;> cases hc
    rename_i cs
    exact .tup _ _ (by rw [← hl, renL_map, List.length_map]) (lst ih cs rfl hin)
  | clo f fs cs a1 a2 h1 h2 hf hv ihf ihv =>
    intro c hc hin
    cases c <;> simp only [Av.ren] at hc <;> cases hc
    rename_i fs cs
    exact .clo _ _ _ _ _ (by rw [← h1, renL_map, List.length_map]) (by rw [← h2, renL_map, List.length_map]) (lst ihf fs rfl hin.1) (lst ihv cs rfl hin.2)
  | any u => intro c hc hin; cases c <;> simp only [Av.ren] at hc <;> cases hc; exact .any u
  | und => intro c hc hin; cases c <;> simp only [Av.ren] at hc <;> cases hc; exact .und

theorem under_inv {G : Heap} (hu : Under ρ G H) {i : Nat} {o' : Obj} (hin : (G i).isSome = true) (h : H (ρ i) = some o') : ∃ o, G i = some o ∧ o' = o.ren ρ := by
  obtain ⟨o, ho⟩ := Option.isSome_iff_exists.1 hin
  have := hu i o ho
  rw [this] at h
  exact ⟨o, ho, by cases h; rfl⟩

theorem VRep.ren {G : Heap} {β1 : Blocks} {A1 A' : Nat → Prop} (hu : Under ρ G H) (hβ : ∀ i, (G i).isSome = true → β (ρ i) = β1 i) (hA : ∀ b, A1 b → A' b) {c : Av} {u : Value} (hin : inT G c) (h : VRep β1 A1 w G c u) :
    VRep β A' w H (c.ren ρ) u := by
  have hr : ∀ x u, Rep A1 w x u → Rep A' w x u := fun x u h => h.mono (fun _ _ => rfl) hA
  have hsome : ∀ i, (G i).isSome = true → (H (ρ i)).isSome = true := by
    intro i hi
    obtain ⟨o, ho⟩ := Option.isSome_iff_exists.1 hi
    rw [hu i o ho]; rfl
  have lst : ∀ {cs : List Av} {arr : Array Value}, idsInL G cs → (∀ (i : Nat) c v, cs[i]? = some c → arr[i]? = some v → inT G c → VRep β A' w H (c.ren ρ) v) →
      ∀ (i : Nat) c v, (renL ρ cs)[i]? = some c → arr[i]? = some v → VRep β A' w H c v := by
    intro cs arr hin ih i c v hc hv
    rw [renL_map, List.getElem?_map] at hc
    cases hci : cs[i]? with
    | none => simp [hci] at hc
    | some c0 =>
      simp only [hci, Option.map_some, Option.some.injEq] at hc
      subst hc
      exact ih i c0 v hci hv (idsInL_get hin i c0 hci)
  induction h with
  | d x u h => exact .d _ _ (hr _ _ h)
  | ref i off b p u h1 h0 h2 h3 =>
    refine .ref _ off b p u h1 (hsome i hin) ?_ ?_
    · intro cs hcs
      obtain ⟨o, g1, g2⟩ := under_inv hu hin hcs
      cases o <;> simp only [Obj.ren] at g2 <;> cases g2
      rw [hβ i hin]
      exact h2 _ g1
    · intro ds hds
      obtain ⟨o, g1, g2⟩ := under_inv hu hin hds
      cases o <;> simp only [Obj.ren] at g2 <;> cases g2
      exact hr _ _ (h3 _ g1)
  | ms i ver u h1 h0 h2 h3 =>
    refine .ms _ ver u h1 (hsome i hin) ?_ ?_
    · intro v' sz xs hr'
      obtain ⟨o, g1, g2⟩ := under_inv hu hin hr'
      cases o <;> simp only [Obj.ren] at g2 <;> cases g2
      obtain ⟨q1, q2⟩ := h2 _ _ _ g1
      refine ⟨q1, fun e => ?_⟩
      have := q2 e
      unfold RowVal at this ⊢
      rw [hβ i hin]
      exact this
    · intro sz xs hr'
      obtain ⟨o, g1, g2⟩ := under_inv hu hin hr'
      cases o <;> simp only [Obj.ren] at g2 <;> cases g2
      exact hr _ _ (h3 _ _ g1)
  | sub i ver off len u h1 h0 h2 h3 =>
    refine .sub _ ver off len u h1 (hsome i hin) ?_ ?_
    · intro v' sz xs hr'
      obtain ⟨o, g1, g2⟩ := under_inv hu hin hr'
      cases o <;> simp only [Obj.ren] at g2 <;> cases g2
      obtain ⟨q1, q2⟩ := h2 _ _ _ g1
      refine ⟨q1, fun e => ?_⟩
      have := q2 e
      unfold SubVal at this ⊢
      rw [hβ i hin]
      exact this
    · intro sz xs hr'
      obtain ⟨o, g1, g2⟩ := under_inv hu hin hr'
      cases o <;> simp only [Obj.ren] at g2 <;> cases g2
      exact hr _ _ (h3 _ _ g1)
  | el i ver k off b p u h1 h0 h2 =>
    refine .el _ ver k off b p u h1 (hsome i hin) ?_
    intro v' sz xs hr'
    obtain ⟨o, g1, g2⟩ := under_inv hu hin hr'
    cases o <;> simp only [Obj.ren] at g2 <;> cases g2
    rw [hβ i hin]
    exact h2 _ _ _ g1
  | mp i u h1 h0 h2 h3 h4 =>
    refine .mp _ u h1 (hsome i hin) ?_ ?_ ?_
    · intro es hr'
      obtain ⟨o, g1, g2⟩ := under_inv hu hin hr'
      cases o <;> simp only [Obj.ren] at g2 <;> cases g2
      rw [hβ i hin]
      exact h2 _ g1
    · intro l hr'
      obtain ⟨o, g1, g2⟩ := under_inv hu hin hr'
      cases o <;> simp only [Obj.ren] at g2 <;> cases g2
      rw [hβ i hin]
      exact h3 _ g1
    · intro s p hr'
      obtain ⟨o, g1, g2⟩ := under_inv hu hin hr'
      cases o <;> simp only [Obj.ren] at g2 <;> cases g2
      rw [hβ i hin]
      exact h4 _ _ g1
  | tr i h u h1 h0 hk h2 =>
    refine .tr _ h u h1 (hsome i hin) hk ?_
    intro v' s' sz xs hr'
    obtain ⟨o, g1, g2⟩ := under_inv hu hin hr'
    cases o <;> simp only [Obj.ren] at g2 <;> cases g2
    obtain ⟨q1, q2, q3⟩ := h2 _ _ _ _ g1
    refine ⟨q1, q2, fun e1 e2 => ?_⟩
    obtain ⟨u0, u1, r1, r2, r3⟩ := q3 e1 e2
    refine ⟨u0, u1, ?_, r2, r3⟩
    unfold Root at r1 ⊢
    rw [hβ i hin]
    exact r1
  | agg cs arr hl h1 hv ih => exact .agg _ _ (by rw [renL_map, List.length_map]; exact hl) h1 (lst hin fun i c v hc hv hin' => ih i c v hc hv hin')
  | tup cs arr hl hv ih => exact .tup _ _ (by rw [renL_map, List.length_map]; exact hl) (lst hin fun i c v hc hv hin' => ih i c v hc hv hin')
  | clo f fs cs a1 a2 h1 h2 hf hv ihf ihv => exact .clo _ _ _ _ _ (by rw [renL_map, List.length_map]; exact h1) (by rw [renL_map, List.length_map]; exact h2) (lst hin.1 fun i c v hc hv hin' => ihf i c v hc hv hin') (lst hin.2 fun i c v hc hv hin' => ihv i c v hc hv hin')
  | any u => exact .any u
  | und => exact .und

theorem ORep.ren {G : Heap} {β1 : Blocks} {A1 A' : Nat → Prop} (hu : Under ρ G H) (hβ : ∀ i, (G i).isSome = true → β (ρ i) = β1 i) (hA : ∀ b, A1 b → A' b) {i : Nat} {o : Obj} (hi : (G i).isSome = true) (hin : objIn G o) (h : ORep β1 A1 w G i o) :
    ORep β A' w H (ρ i) (o.ren ρ) := by
  cases o with
  | box cs =>
    obtain ⟨b, C, Ty, e1, e2, e3, e4, e5⟩ := h
    refine ⟨b, C, Ty, by rw [hβ i hi]; exact e1, e2, by rw [renL_map, List.length_map]; exact e3, e4, ?_⟩
    intro k c u hk hu'
    rw [renL_map, List.getElem?_map] at hk
    cases hck : cs[k]? with
    | none => simp [hck] at hk
    | some c0 =>
      simp only [hck, Option.map_some, Option.some.injEq] at hk
      subst hk
      exact VRep.ren hu hβ hA (idsInL_get hin k c0 hck) (e5 k c0 u hck hu')
  | row ver sz xs =>
    obtain ⟨g1', g2', g3', ⟨e1, e2⟩ | ⟨b, C, Ty, cap, e1, e2, e3, e4, e5, e6⟩⟩ := h
    · exact ⟨g1', g2', g3', .inl ⟨by rw [hβ i hi]; exact e1, e2⟩⟩
    · exact ⟨g1', g2', g3', .inr ⟨b, C, Ty, cap, by rw [hβ i hi]; exact e1, e2, e3, e4, e5, fun k c v q1 q2 => (e6 k c v q1 q2).mono (fun _ _ => rfl) hA⟩⟩
  | mapo es =>
    obtain ⟨b, ents, clk, e1, e2, e3, e4⟩ := h
    exact ⟨b, ents, clk, by rw [hβ i hi]; exact e1, e2, e3, fun k e m q1 q2 => ⟨(e4 k e m q1 q2).1.mono (fun _ _ => rfl) hA, (e4 k e m q1 q2).2.mono (fun _ _ => rfl) hA⟩⟩
  | lp l =>
    obtain ⟨b, r, e1, e2, e3, e4, e6, e7, e8, e9, e10⟩ := h
    refine ⟨b, r, by rw [hβ i hi]; exact e1, e2, e3, e4, e6, e7, e8, e9, ?_⟩
    intro t v ht
    simp only [get_renT] at ht
    cases htc : get l.tm t with
    | none => simp [htc] at ht
    | some c0 =>
      simp only [htc, Option.map_some, Option.some.injEq] at ht
      subst ht
      obtain ⟨u, q1, q2⟩ := e10 t c0 htc
      exact ⟨u, q1, VRep.ren hu hβ hA (idsInT_get hin t c0 htc) q2⟩
  | fbox ds => trivial
  | frz ver sz xs => trivial
  | gone => trivial
  | sit s p =>
    obtain ⟨b, e1, e2, e3⟩ := h
    exact ⟨b, by rw [hβ i hi]; exact e1, e2, e3⟩
  | tre ver sv sz xs =>
    obtain ⟨u, q1, q2, q3, q4⟩ := h
    refine ⟨u, by rw [hβ i hi]; exact q1.mono (fun _ _ => rfl) hA fun _ _ => rfl, by rw [hβ i hi]; exact q2, ?_, by rw [hβ i hi]; exact q4⟩
    unfold Root at q3 ⊢
    rw [hβ i hi]
    exact q3

/-- the callee's objects alone -/
theorem Core.unren {G : Heap} (hc : Core β A w H) (hun : Under ρ G H) (hinj : ∀ i j, (G i).isSome = true → (G j).isSome = true → ρ i = ρ j → i = j) (hcl : closed G) : Core (fun i => β (ρ i)) A w G := by
  refine ⟨?_, ?_, ?_, hc.old, hc.glob⟩
  · intro i o hi
    have := hc.objs _ _ (hun i o hi)
    have hin := hcl i o hi
    cases o with
    | box cs =>
      obtain ⟨b, C, Ty, e1, e2, e3, e4, e5⟩ := this
      refine ⟨b, C, Ty, e1, e2, by rw [renL_map, List.length_map] at e3; exact e3, e4, ?_⟩
      intro j c u hj hu
      exact (e5 j (c.ren ρ) u (by rw [renL_map, List.getElem?_map, hj]; rfl) hu).unren hun c rfl (idsInL_get hin j c hj)
    | lp l =>
      obtain ⟨b, r, e1, e2, e3, e4, e6, e7, e8, e9, e10⟩ := this
      refine ⟨b, r, e1, e2, e3, e4, e6, e7, e8, e9, ?_⟩
      intro t v ht
      obtain ⟨u, q1, q2⟩ := e10 t (v.ren ρ) (by simp only [get_renT, ht, Option.map_some])
      exact ⟨u, q1, q2.unren hun v rfl (idsInT_get hin t v ht)⟩
    | row ver sz xs => exact this
    | mapo es => exact this
    | fbox ds => trivial
    | frz ver sz xs => trivial
    | gone => trivial
    | sit s p => exact this
    | tre a b c d => exact this
  · intro i j o o' b hi hl hj hl' hb hb'
    exact hinj i j (by rw [hi]; rfl) (by rw [hj]; rfl) (hc.inj _ _ _ _ b (hun i o hi) (by rw [ren_live]; exact hl) (hun j o' hj) (by rw [ren_live]; exact hl') hb hb')
  · intro i o b hi hl hb
    exact hc.sep _ _ b (hun i o hi) (by rw [ren_live]; exact hl) hb

/-- what has become of the callee's objects, seen from the caller -/
theorem lift {G G1 H' : Heap} {D : Nat → Prop} {ro : Option Nat} {β1 : Blocks} {A1 : Nat → Prop} {w' : World} (hc : Core β A w H) (hun : Under ρ G H) (hinj : ∀ i j, (G1 i).isSome = true → (G1 j).isSome = true → ρ i = ρ j → i = j)
    (hdom : ∀ i, (G i).isSome = true → (G1 i).isSome = true) (hnew : ∀ i, G i = none → (G1 i).isSome = true → H (ρ i) = none) (hD : ∀ i, (G i).isSome = true → D i) (hcl : closed G1)
    (hsince : Since ⟨fun i => β (ρ i), A, w, G, D, ro⟩ β1 A1 w' G1) (hc1 : Core β1 A1 w' G1) (hun1 : Under ρ G1 H') (hHo : ∀ j, (∀ i, (G1 i).isSome = true → ρ i ≠ j) → H' j = H j) :
    ∃ β' A', Stp β A w H β' A' w' H' ∧ ∀ c u, inT G1 c → VRep β1 A1 w' G1 c u → VRep β' A' w' H' (c.ren ρ) u := by
  obtain ⟨s1, s2, s3, s4, s5, sl, s6, s7, s8⟩ := hsince
  dsimp only at s1 s2 s3 s4 s5 s6 s7 s8 sl
  let D1 : Nat → Prop := fun i => (G1 i).isSome = true
  have hexβ : ∃ β' : Blocks, (∀ i, D1 i → β' (ρ i) = β1 i) ∧ ∀ j, (∀ i, D1 i → ρ i ≠ j) → β' j = β j := by
    classical
    refine ⟨fun j => if h : ∃ i, D1 i ∧ ρ i = j then β1 (Classical.choose h) else β j, ?_, ?_⟩
    · intro i hi
      have hex : ∃ k, D1 k ∧ ρ k = ρ i := ⟨i, hi, rfl⟩
      simp only [hex, dif_pos]
      have := Classical.choose_spec hex
      rw [hinj _ i this.1 hi this.2]
    · intro j hj
      have hno : ¬ ∃ i, D1 i ∧ ρ i = j := fun ⟨i, h1, h2⟩ => hj i h1 h2
      simp only [hno, dif_neg, not_false_iff]
  obtain ⟨β', hβi, hβo⟩ := hexβ
  have hsA : SameOn A w w' := fun b hb => s5 b (hc.old b hb) fun i o hi hl hbi => hc.sep _ _ b (hun i o hi) (by rw [ren_live]; exact hl) hbi hb
  -- blocks of the caller's other objects
  have hblk : ∀ j o b, (∀ i, D1 i → ρ i ≠ j) → H j = some o → o.live = true → (β j).has b → w'.heap[b]? = w.heap[b]? := by
    intro j o b hj hHj hl hb
    refine s5 b (hc.lt hHj hl hb) ?_
    intro i o' hi hl' hbi
    exact hj i (hdom i (by rw [hi]; rfl)) (hc.inj _ _ _ _ b (hun i o' hi) (by rw [ren_live]; exact hl') hHj hl hbi hb)
  have hd : ∀ x u, Rep A w x u → Rep (fun b => A b ∨ A1 b) w' x u := fun x u h => h.mono hsA fun _ h => .inl h
  have one : ∀ c u, inT G1 c → VRep β1 A1 w' G1 c u → VRep β' (fun b => A b ∨ A1 b) w' H' (c.ren ρ) u := fun c u hin hvr => VRep.ren hun1 hβi (fun _ h => .inr h) hin hvr
  -- values of the callee's objects
  have old : ∀ i, D1 i → ∀ (c c' : Av) (u : Value), c' = c.ren ρ → ((∃ off, c = .ref i off) ∨ (∃ ver, c = .ms i ver) ∨ (∃ ver off len, c = .sub i ver off len) ∨ (∃ ver k off, c = .el i ver k off) ∨ c = .mp i ∨ (∃ h, c = .tr i h)) → VRep β A w H c' u → VRep β' (fun b => A b ∨ A1 b) w' H' c' u := by
    intro i hi c c' u hcc hcase hvr
    cases hGi : G i with
    | none =>
      exfalso
      refine val_noneG (hnew i hGi hi) c' u ?_ hvr
      subst hcc
      rcases hcase with ⟨off, rfl⟩ | ⟨ver, rfl⟩ | ⟨ver, off, len, rfl⟩ | ⟨ver, k, off, rfl⟩ | rfl | ⟨h, rfl⟩ <;> simp [Av.ren]
    | some o =>
      have hs : (G i).isSome = true := by rw [hGi]; rfl
      have hinG : inT G c ∧ inT G1 c ∧ base D c := by
        rcases hcase with ⟨off, rfl⟩ | ⟨ver, rfl⟩ | ⟨ver, off, len, rfl⟩ | ⟨ver, k, off, rfl⟩ | rfl | ⟨h, rfl⟩ <;> exact ⟨hs, hi, hD i hs⟩
      subst hcc
      exact one c u hinG.2.1 (s8 c u hinG.2.2 (hvr.unren hun c rfl hinG.1))
  have split : ∀ j, (∃ i, D1 i ∧ ρ i = j) ∨ ∀ i, D1 i → ρ i ≠ j := by
    intro j
    by_cases h : ∃ i, D1 i ∧ ρ i = j
    · exact .inl h
    · exact .inr fun i hi e => h ⟨i, hi, e⟩
  have hall : ∀ c u, VRep β A w H c u → VRep β' (fun b => A b ∨ A1 b) w' H' c u := by
    refine VRep.of_base hd ?_ ?_ ?_ ?_ ?_ ?_
    · intro j off u hvr
      rcases split j with ⟨i, hi, rfl⟩ | hj
      · exact old i hi (.ref i off) _ u rfl (.inl ⟨_, rfl⟩) hvr
      · cases hvr with
        | ref _ _ b p _ h1 h0 h2 h3 => exact .ref _ _ b p _ h1 (by rw [hHo j hj]; exact h0) (by rw [hHo j hj, hβo j hj]; exact h2) (by rw [hHo j hj]; exact fun ds hds => hd _ _ (h3 ds hds))
    · intro j ver u hvr
      rcases split j with ⟨i, hi, rfl⟩ | hj
      · exact old i hi (.ms i ver) _ u rfl (.inr (.inl ⟨_, rfl⟩)) hvr
      · cases hvr with
        | ms _ _ _ h1 h0 h2 h3 =>
          refine .ms _ _ _ h1 (by rw [hHo j hj]; exact h0) ?_ (by rw [hHo j hj]; exact fun sz xs hds => hd _ _ (h3 sz xs hds))
          rw [hHo j hj]
          intro v' sz xs hr
          obtain ⟨q1, q2⟩ := h2 v' sz xs hr
          refine ⟨q1, fun e => ?_⟩
          rcases q2 e with ⟨r1, r2⟩ | ⟨b, C, Ty, fz, cap, r1, r2, r3⟩
          · exact .inl ⟨by rw [hβo j hj]; exact r1, r2⟩
          · exact .inr ⟨b, C, Ty, fz, cap, by rw [hβo j hj]; exact r1, by rw [hblk j _ b hj hr rfl (by rw [r1]; exact BK.has_one.2 rfl)]; exact r2, r3⟩
    · intro j ver off len u hvr
      rcases split j with ⟨i, hi, rfl⟩ | hj
      · exact old i hi (.sub i ver off len) _ u rfl (.inr (.inr (.inl ⟨_, _, _, rfl⟩))) hvr
      · cases hvr with
        | sub _ _ _ _ _ h1 h0 h2 h3 =>
          refine .sub _ _ _ _ _ h1 (by rw [hHo j hj]; exact h0) ?_ (by rw [hHo j hj]; exact fun sz xs hds => hd _ _ (h3 sz xs hds))
          rw [hHo j hj]
          intro v' sz xs hr
          obtain ⟨q1, q2⟩ := h2 v' sz xs hr
          refine ⟨q1, fun e => ?_⟩
          obtain ⟨q3, ⟨r1, r2⟩ | ⟨b, C, Ty, fz, cap, ad, r1, r2, r3⟩⟩ := q2 e
          · exact ⟨q3, .inl ⟨by rw [hβo j hj]; exact r1, r2⟩⟩
          · exact ⟨q3, .inr ⟨b, C, Ty, fz, cap, ad, by rw [hβo j hj]; exact r1, by rw [hblk j _ b hj hr rfl (by rw [r1]; exact BK.has_one.2 rfl)]; exact r2, r3⟩⟩
    · intro j ver k off u hvr
      rcases split j with ⟨i, hi, rfl⟩ | hj
      · exact old i hi (.el i ver k off) _ u rfl (.inr (.inr (.inr (.inl ⟨_, _, _, rfl⟩)))) hvr
      · cases hvr with
        | el _ _ _ _ b p _ h1 h0 h2 => exact .el _ _ _ _ b p _ h1 (by rw [hHo j hj]; exact h0) (by rw [hHo j hj, hβo j hj]; exact h2)
    · intro j u hvr
      rcases split j with ⟨i, hi, rfl⟩ | hj
      · exact old i hi (.mp i) _ u rfl (.inr (.inr (.inr (.inr (.inl rfl))))) hvr
      · cases hvr with
        | mp _ _ h1 h0 h2 h3 h4 => exact .mp _ _ h1 (by rw [hHo j hj]; exact h0) (by rw [hHo j hj, hβo j hj]; exact h2) (by rw [hHo j hj, hβo j hj]; exact h3) (by rw [hHo j hj, hβo j hj]; exact h4)
    · intro j h u hvr
      rcases split j with ⟨i, hi, rfl⟩ | hj
      · exact old i hi (.tr i h) _ u rfl (.inr (.inr (.inr (.inr (.inr ⟨h, rfl⟩))))) hvr
      · cases hvr with
        | tr _ _ _ h1 h0 hk h2 =>
          refine .tr _ _ _ h1 (by rw [hHo j hj]; exact h0) hk ?_
          rw [hHo j hj]
          intro v' s' sz xs hr
          obtain ⟨q1, q2, q3⟩ := h2 v' s' sz xs hr
          exact ⟨q1, q2, fun e1 e2 => (q3 e1 e2).mono (hc.objs _ _ hr) (hβo j hj) fun b hb => hblk j _ b hj hr rfl hb⟩
  have hmine1 : ∀ i o b, G1 i = some o → o.live = true → (β1 i).has b → w.heap.size ≤ b ∨ ∃ i' o', H (ρ i') = some o' ∧ o'.live = true ∧ (β (ρ i')).has b ∧ D1 i' := by
    intro i o b hi hl hb
    rcases s7 i o b hi hl hb with h | ⟨i', o', g1, g2, g3⟩
    · exact .inl h
    · exact .inr ⟨i', _, hun i' o' g1, by rw [ren_live]; exact g2, g3, hdom i' (by rw [g1]; rfl)⟩
  have inv : ∀ j o, H' j = some o → (∃ i o1, D1 i ∧ ρ i = j ∧ G1 i = some o1 ∧ o = o1.ren ρ) ∨ ((∀ i, D1 i → ρ i ≠ j) ∧ H j = some o) := by
    intro j o hj
    rcases split j with ⟨i, hi, rfl⟩ | hn
    · obtain ⟨o1, g1, g2⟩ := under_inv hun1 hi hj
      exact .inl ⟨i, o1, hi, rfl, g1, g2⟩
    · exact .inr ⟨hn, by rw [← hHo j hn]; exact hj⟩
  refine ⟨β', _, ⟨⟨?_, ?_, ?_, ?_, fun g cs hg => (hc.glob g cs hg).mono hsA fun _ h => .inl h⟩, hall, s1, s2, s3, s4, ?_, sl, ?_, ?_⟩, one⟩
  · intro j o hj
    rcases inv j o hj with ⟨i, o1, hi, rfl, g1, rfl⟩ | ⟨hn, hHj⟩
    · exact ORep.ren hun1 hβi (fun _ h => .inr h) hi (hcl i o1 g1) (hc1.objs i o1 g1)
    · exact (hc.objs j o hHj).mono hall hsA (fun _ h => .inl h) (hβo j hn) fun b hb hl => hblk j o b hn hHj hl hb
  · intro j k o o' b hj hl hk hl' hb hb'
    rcases inv j o hj with ⟨i, o1, hi, rfl, g1, rfl⟩ | ⟨hn, hHj⟩
    · rw [hβi i hi] at hb
      rw [ren_live] at hl
      rcases inv k o' hk with ⟨i', o1', hi', rfl, g1', rfl⟩ | ⟨hn', hHk⟩
      · rw [hβi i' hi'] at hb'
        rw [ren_live] at hl'
        rw [hc1.inj i i' o1 o1' b g1 hl g1' hl' hb hb']
      · exfalso
        rw [hβo k hn'] at hb'
        rcases hmine1 i o1 b g1 hl hb with h | ⟨i', o2, q1, q2, q3, q4⟩
        · have := hc.lt hHk hl' hb'; omega
        · exact hn' i' q4 (hc.inj _ _ _ _ b q1 q2 hHk hl' q3 hb')
    · rw [hβo j hn] at hb
      rcases inv k o' hk with ⟨i', o1', hi', rfl, g1', rfl⟩ | ⟨hn', hHk⟩
      · exfalso
        rw [hβi i' hi'] at hb'
        rw [ren_live] at hl'
        rcases hmine1 i' o1' b g1' hl' hb' with h | ⟨i2, o2, q1, q2, q3, q4⟩
        · have := hc.lt hHj hl hb; omega
        · exact hn i2 q4 (hc.inj _ _ _ _ b q1 q2 hHj hl q3 hb)
      · rw [hβo k hn'] at hb'
        exact hc.inj j k o o' b hHj hl hHk hl' hb hb'
  · rintro j o b hj hl hb (hAb | hAb)
    · rcases inv j o hj with ⟨i, o1, hi, rfl, g1, rfl⟩ | ⟨hn, hHj⟩
      · rw [hβi i hi] at hb
        rw [ren_live] at hl
        rcases hmine1 i o1 b g1 hl hb with h | ⟨i', o2, q1, q2, q3, q4⟩
        · have := hc.old b hAb; omega
        · exact hc.sep _ _ b q1 q2 q3 hAb
      · rw [hβo j hn] at hb
        exact hc.sep j o b hHj hl hb hAb
    · rcases inv j o hj with ⟨i, o1, hi, rfl, g1, rfl⟩ | ⟨hn, hHj⟩
      · rw [hβi i hi] at hb
        rw [ren_live] at hl
        exact hc1.sep i o1 b g1 hl hb hAb
      · rw [hβo j hn] at hb
        rcases s6 b hAb with h | h | ⟨i', o', q1, q2, q3⟩
        · exact hc.sep j o b hHj hl hb h
        · have := hc.lt hHj hl hb; omega
        · exact hn i' (hdom i' (by rw [q1]; rfl)) (hc.inj _ _ _ _ b (hun i' o' q1) (by rw [ren_live]; exact q2) hHj hl q3 hb)
  · rintro b (h | h)
    · exact Nat.lt_of_lt_of_le (hc.old b h) s4
    · exact hc1.old b h
  · intro b hb hn
    refine s5 b hb ?_
    intro i o hi hl hbi
    exact hn _ _ (hun i o hi) (by rw [ren_live]; exact hl) hbi
  · rintro b (h | h)
    · exact .inl h
    · rcases s6 b h with h | h | ⟨i', o', q1, q2, q3⟩
      · exact .inl h
      · exact .inr (.inl h)
      · exact .inr (.inr ⟨_, _, hun i' o' q1, by rw [ren_live]; exact q2, q3⟩)
  · intro j o b hj hl hb
    rcases inv j o hj with ⟨i, o1, hi, rfl, g1, rfl⟩ | ⟨hn, hHj⟩
    · rw [hβi i hi] at hb
      rw [ren_live] at hl
      rcases hmine1 i o1 b g1 hl hb with h | ⟨i', o2, q1, q2, q3, q4⟩
      · exact .inl h
      · exact .inr ⟨_, o2, q1, q2, q3⟩
    · rw [hβo j hn] at hb
      exact .inr ⟨j, o, hHj, hl, hb⟩

theorem under_hputs {D : Nat → Prop} (hinj : ∀ i j, D i → D j → ρ i = ρ j → i = j) : ∀ (ups : List (Nat × Obj)) (G H : Heap), (∀ i, (G i).isSome = true → D i) → (∀ e ∈ ups, D e.1) → Under ρ G H →
    Under ρ (hputs G ups) (hputs H (ups.map fun e => (ρ e.1, e.2.ren ρ)))
  | [], G, H, _, _, hu => hu
  | (i, o) :: r, G, H, hG, hd, hu => by
    simp only [List.map_cons, hputs]
    have hi : D i := hd (i, o) List.mem_cons_self
    refine under_hputs hinj r _ _ ?_ (fun e he => hd e (List.mem_cons_of_mem _ he)) ?_
    · intro j hj
      unfold upd at hj
      split at hj
      · rename_i e; rw [e]; exact hi
      · exact hG j hj
    · intro j o' hj
      unfold upd at hj ⊢
      split at hj
      · rename_i e
        subst e
        cases hj
        rw [if_pos rfl]
      · rename_i e
        rw [if_neg (fun e2 => e (hinj j i (hG j (by rw [hj]; rfl)) hi e2))]
        exact hu j o' hj

theorem get_mem : ∀ (T : List (Nat × Obj)) (i : Nat) (o : Obj), get T i = some o → (i, o) ∈ T := by
  intro T
  induction T with
  | nil => intro i o h; cases h
  | cons e r ih =>
    obtain ⟨k, x⟩ := e
    intro i o h
    simp only [get] at h
    split at h
    · rename_i e; subst e; cases h; exact List.mem_cons_self
    · exact List.mem_cons_of_mem _ (ih i o h)

theorem hputs_dom' : ∀ (ups : List (Nat × Obj)) (H : Heap) (j : Nat), (hputs H ups j).isSome = true → (H j).isSome = true ∨ ∃ e ∈ ups, e.1 = j
  | [], _, _, h => .inl h
  | (i, o) :: r, H, j, h => by
    rcases hputs_dom' r _ j h with h | ⟨e, he, h⟩
    · unfold upd at h
      split at h
      · rename_i e; exact .inr ⟨(i, o), List.mem_cons_self, e.symm⟩
      · exact .inl h
    · exact .inr ⟨e, List.mem_cons_of_mem _ he, h⟩
theorem hputs_up : ∀ (ups : List (Nat × Obj)) (H : Heap), ∀ e ∈ ups, (hputs H ups e.1).isSome = true
  | (i, o) :: r, H, e, he => by
    rcases List.mem_cons.1 he with rfl | he
    · exact hputs_some r _ _ (by simp [upd])
    · exact hputs_up r _ e he

/-- what both uses of contracts have in common -/
theorem use {G : Heap} {ups : List (Nat × Obj)} {v : Av} {D : Nat → Prop} {ro : Option Nat} {β1 : Blocks} {A1 : Nat → Prop} {w' : World} {u : Value} (hc : Core β A w H) (hun : Under ρ G H)
    (hinj : ∀ i j, (hputs G ups i).isSome = true → (hputs G ups j).isSome = true → ρ i = ρ j → i = j) (hnew : ∀ e ∈ ups, G e.1 = none → H (ρ e.1) = none) (hD : ∀ i, (G i).isSome = true → D i) (hcl : closed (hputs G ups)) (hv : inT (hputs G ups) v)
    (hsince : Since ⟨fun i => β (ρ i), A, w, G, D, ro⟩ β1 A1 w' (hputs G ups)) (hc1 : Core β1 A1 w' (hputs G ups)) (hv1 : VRep β1 A1 w' (hputs G ups) v u) :
    ∃ β' A', Stp β A w H β' A' w' (hputs H (ups.map fun e => (ρ e.1, e.2.ren ρ))) ∧ VRep β' A' w' (hputs H (ups.map fun e => (ρ e.1, e.2.ren ρ))) (v.ren ρ) u := by
  have hup : ∀ e ∈ ups, (hputs G ups e.1).isSome = true := hputs_up ups G
  obtain ⟨β', A', h1, h2⟩ := lift (H' := hputs H (ups.map fun e => (ρ e.1, e.2.ren ρ))) hc hun hinj (fun i hi => hputs_some ups G i hi) (fun i hi h => by
      rcases hputs_dom' ups G i h with h | ⟨e, he, rfl⟩
      · rw [hi] at h; cases h
      · exact hnew e he hi) hD hcl hsince hc1
    (under_hputs (D := fun i => (hputs G ups i).isSome = true) hinj ups _ _ (fun i h => hputs_some ups G i h) hup hun)
    (fun j hj => hputs_other _ _ j fun e he => by
      obtain ⟨e', g1, rfl⟩ := List.mem_map.1 he
      exact hj _ (hup e' g1))
  exact ⟨β', A', h1, h2 v u hv hv1⟩

/-- a caller uses a contract -/
theorem Con.call {f : Nat} {args : List Av} {T : List (Nat × Obj)} {v : Av} {ups : List (Nat × Obj)} (h : Con P f args T v ups) (ρ : Nat → Nat) (hbig : ∀ i, (get T i).isSome = true → 1000 ≤ i)
    (hinj : ∀ i j, (hputs (get T) ups i).isSome = true → (hputs (get T) ups j).isSome = true → ρ i = ρ j → i = j) (hargs : ∀ c ∈ args, inT (get T) c) (hcl : closed (get T)) (nw : List Nat)
    (hups : ∀ e ∈ ups, (get T e.1).isSome = true ∨ e.1 ∈ nw) (hcl' : closed (hputs (get T) ups)) (hv : inT (hputs (get T) ups) v) :
    CallOK P f (args.map (Av.ren ρ)) ((T.map fun e => (ρ e.1, some (e.2.ren ρ))) ++ nw.map fun i => (ρ i, none)) (v.ren ρ) (ups.map fun e => (ρ e.1, e.2.ren ρ)) := by
  intro β A w H vs hT hc hvs
  have hun : Under ρ (get T) H := by
    intro i o hi
    exact hT _ (List.mem_append_left _ (List.mem_map.2 ⟨(i, o), get_mem T i o hi, rfl⟩))
  have hvs0 : VReps (fun i => β (ρ i)) A w (get T) args vs := by
    refine ⟨by have := hvs.1; simpa using this, ?_⟩
    intro i c u hi hu
    exact (hvs.2 i (c.ren ρ) u (by rw [List.getElem?_map, hi]; rfl) hu).unren hun c rfl (hargs c (List.mem_of_getElem? hi))
  have hinj' : ∀ i j, (get T i).isSome = true → (get T j).isSome = true → ρ i = ρ j → i = j := fun i j hi hj => hinj i j (hputs_some ups _ i hi) (hputs_some ups _ j hj)
  refine .inl ⟨h.1, (h.2 _ A w vs (hc.unren hun hinj' hcl) hvs0).mono ?_⟩
  rintro e w' ⟨u, β1, A1, rfl, hsince, hc1, hv1⟩
  refine ⟨u, rfl, use hc hun hinj (fun e he hn => ?_) hbig hcl' hv hsince hc1 hv1⟩
  rcases hups e he with h | h
  · rw [hn] at h; cases h
  · exact hT (ρ e.1, none) (List.mem_append_right _ (List.mem_map.2 ⟨e.1, h, rfl⟩))

/-- a call of yield uses a round's contract -/
theorem RCon.call {lid : Nat} {args : List Av} {T : List (Nat × Obj)} {v : Av} {ups : List (Nat × Obj)} (h : RCon P lid args T v ups) (ρ : Nat → Nat) (hlid : ∃ l, get T lid = some (.lp l))
    (hinj : ∀ i j, (hputs (get T) ups i).isSome = true → (hputs (get T) ups j).isSome = true → ρ i = ρ j → i = j) (hargs : ∀ c ∈ args, inT (get T) c) (hcl : closed (get T)) (nw : List Nat)
    (hups : ∀ e ∈ ups, (get T e.1).isSome = true ∨ e.1 ∈ nw) (hcl' : closed (hputs (get T) ups)) (hv : inT (hputs (get T) ups) v) :
    CallOK P .yld (.mp (ρ lid) :: args.map (Av.ren ρ)) ((T.map fun e => (ρ e.1, some (e.2.ren ρ))) ++ nw.map fun i => (ρ i, none)) (v.ren ρ) (ups.map fun e => (ρ e.1, e.2.ren ρ)) := by
  intro β A w H vs hT hc hvs
  obtain ⟨l, hl⟩ := hlid
  have hun : Under ρ (get T) H := by
    intro i o hi
    exact hT _ (List.mem_append_left _ (List.mem_map.2 ⟨(i, o), get_mem T i o hi, rfl⟩))
  obtain ⟨hlen, hvs⟩ := hvs
  obtain ⟨y, rest, rfl⟩ : ∃ y rest, vs = #[y] ++ rest := by
    refine ⟨vs[0]'(by simp at hlen; omega), vs.extract 1 vs.size, ?_⟩
    apply Array.ext
    · simp at hlen ⊢; omega
    · intro i h1 h2
      cases i with
      | zero => simp
      | succ i => rw [Array.getElem_append_right (by simp)]; simp [Nat.add_comm]
  have hy := hvs 0 (.mp (ρ lid)) y rfl (by rw [Array.getElem?_append_left (by simp)]; rfl)
  obtain ⟨l0, hb, rfl⟩ : ∃ l0, β (ρ lid) = some l0 ∧ y = .func (.yield l0) #[] #[] := by
    cases hy with
    | mp _ _ _ _ _ h2 _ => exact h2 _ (hun lid _ hl)
  have hvs0 : VReps (fun i => β (ρ i)) A w (get T) args rest := by
    refine ⟨by simp at hlen; omega, ?_⟩
    intro i c u hi hu
    refine (hvs (i + 1) (c.ren ρ) u (by simp [hi]) ?_).unren hun c rfl (hargs c (List.mem_of_getElem? hi))
    rw [Array.getElem?_append_right (by simp)]
    simpa using hu
  have hinj' : ∀ i j, (get T i).isSome = true → (get T j).isSome = true → ρ i = ρ j → i = j := fun i j hi hj => hinj i j (hputs_some ups _ i hi) (hputs_some ups _ j hj)
  obtain ⟨fn, tmps, asg, body, e1, e2⟩ := h _ A w l0 rest (hc.unren hun hinj' hcl) hb hvs0
  refine ⟨l0, rest, rfl, fn, tmps, asg, body, e1, e2.mono ?_⟩
  rintro e w' ⟨u, rfl, β1, A1, hsince, hc1, hv1⟩
  refine ⟨u, rfl, use hc hun hinj (fun e he hn => ?_) (fun i hi => hi) hcl' hv hsince hc1 hv1⟩
  rcases hups e he with h | h
  · rw [hn] at h; cases h
  · exact hT (ρ e.1, none) (List.mem_append_right _ (List.mem_map.2 ⟨e.1, h, rfl⟩))
end
end Av

namespace Av
open Go
variable [Glb] [Rls]

mutual
/-- nil slices in data as empty ones -/
def Dat.canon : Dat → Dat
  | .nil sz => .list sz []
  | .list sz xs => .list sz (canonL xs)
  | .agg cs => .agg (canonL cs)
  | .ptr cs => .ptr (canonL cs)
  | .iface t d => .iface t d.canon
  | x => x
def canonL : List Dat → List Dat
  | [] => []
  | x :: r => x.canon :: canonL r
end

theorem canonL_map : ∀ (xs : List Dat), canonL xs = xs.map Dat.canon
  | [] => by simp [canonL]
  | x :: r => by simp [canonL, canonL_map r]

theorem canon_cells (x : Dat) : x.canon.cells = x.cells.map Dat.canon := by
  cases x <;> simp [Dat.canon, Dat.cells, canonL_map]

theorem flat_canon (xs : List Dat) : flat (xs.map Dat.canon) = (flat xs).map Dat.canon := by
  induction xs with
  | nil => rfl
  | cons x xs ih => simp only [List.map_cons, flat, List.flatMap_cons, List.map_append] at ih ⊢; rw [canon_cells, ih]

theorem Rep.canon {A : Nat → Prop} {w : World} {x : Dat} {v : Value} (h : Rep A w x v) : Rep A w x.canon v := by
  induction h with
  | bool b => exact .bool b
  | int k n h => exact .int k n h
  | str s h => exact .str s h
  | nil sz a => exact .emp sz a 0
  | emp sz a cap => simp only [Dat.canon, canonL]; exact .emp sz a cap
  | list sz xs b o n cap vs hn hAb hl hc h1 hsz hh hvl hv ih =>
    simp only [Dat.canon, canonL_map]
    refine .list sz _ b o n cap vs (by simpa using hn) hAb (by simpa using hl) (by simpa using hc) h1 ?_ hh (by rw [flat_canon]; simpa using hvl) ?_
    · intro y hy
      obtain ⟨x, hx, rfl⟩ := List.mem_map.1 hy
      rw [canon_cells, List.length_map]
      exact hsz x hx
    · intro i c v hc hv
      rw [flat_canon, List.getElem?_map] at hc
      cases e : (flat xs)[i]? with
      | none => simp [e] at hc
      | some c0 => simp only [e, Option.map_some, Option.some.injEq] at hc; subst hc; exact ih i c0 v e hv
  | agg cs arr hl h1 hv ih =>
    simp only [Dat.canon, canonL_map]
    refine .agg _ arr (by simpa using hl) h1 ?_
    intro i c v hc hv
    rw [List.getElem?_map] at hc
    cases e : cs[i]? with
    | none => simp [e] at hc
    | some c0 => simp only [e, Option.map_some, Option.some.injEq] at hc; subst hc; exact ih i c0 v e hv
  | fn f fs cs a1 a2 h1 h2 hf hv ihf ihv => simp only [Dat.canon]; exact .fn f fs cs a1 a2 h1 h2 hf hv
  | ptr cs b o vs hAb h1 hh hvl hv ih =>
    simp only [Dat.canon, canonL_map]
    refine .ptr _ b o vs hAb h1 hh (by simpa using hvl) ?_
    intro i c v hc hv
    rw [List.getElem?_map] at hc
    cases e : cs[i]? with
    | none => simp [e] at hc
    | some c0 => simp only [e, Option.map_some, Option.some.injEq] at hc; subst hc; exact ih i c0 v e hv
  | map es r ents clk hAb hr hl hk hv ihk ihv => simp only [Dat.canon]; exact .map es r ents clk hAb hr hl hk hv
  | nilFn => exact .nilFn
  | nilPtr => exact .nilPtr
  | nilMap => exact .nilMap
  | nilIface => exact .nilIface
  | glo g => exact .glo g
  | iface t x v h ih => simp only [Dat.canon]; exact .iface t _ v ih
  | opq v h1 => exact .opq v h1

/-- where a function's results lie -/
inductive RI where
  | tmp (t : Nat)
  | cell (a : Nat) (n : Option Nat)
  deriving Inhabited

def trRes (P : Program) : ResultVar → Option RI
  | .tmp t => some (.tmp t)
  | .cell a t => (shT P t).map (.cell a)

def outs : List RI → St → Option (Prop × List Av)
  | [], _ => some (True, [])
  | .tmp t :: r, st => match get st.tm t, outs r st with
    | some c, some (p, cs) => some (p, c :: cs)
    | _, _ => none
  | .cell a n :: r, st => match step (get st.tm) (get st.hp) 0 (.ld n (.t a)), outs r st with
    | some x, some (p, cs) => some (x.c ∧ p, x.v :: cs)
    | _, _ => none

/-- is an object the caller's? -/
def mine : Av → Bool
  | .ref i _ | .ms i _ | .sub i _ _ _ | .el i _ _ _ | .mp i => decide (1000 ≤ i)
  | .tr _ _ => true
  | .tup _ | .any | .und => true
  | _ => false
/-- a part of a result: as data if it can be, else as it is -/
def part1 (H : Heap) (c : Av) : Prop × Av × List (Nat × Obj) := if mine c then (True, c, []) else match datum H c with
  | some (p, x, u) => (p, .d x.canon, u)
  | none => (True, c, [])
def parts1 (H : Heap) : List Av → Prop × List Av × List (Nat × Obj)
  | [] => (True, [], [])
  | c :: r => (((part1 H c).1 ∧ (parts1 (hputs H (part1 H c).2.2) r).1), (part1 H c).2.1 :: (parts1 (hputs H (part1 H c).2.2) r).2.1, (part1 H c).2.2 ++ (parts1 (hputs H (part1 H c).2.2) r).2.2)
/-- a result as data, or as a handle of an object, or as a closure -/
def finF (H : Heap) : Av → Option (Prop × Av × List (Nat × Obj))
  | .d x => some (True, .d x.canon, [])
  | .ref i off => some (True, .ref i off, [])
  | .tr i h => some (True, .tr i h, [])
  | .el i ver k off => if 1000 ≤ i then some (True, .el i ver k off, []) else none
  | .mp i => if 1000 ≤ i then some (True, .mp i, []) else match datum H (.mp i) with
    | some (p, x, u) => some (p, .d x.canon, u)
    | none => none
  | .ms i ver => if 1000 ≤ i then some (True, .ms i ver, []) else match datum H (.ms i ver) with
    | some (p, x, u) => some (p, .d x.canon, u)
    | none => none
  | .sub i ver off len => if 1000 ≤ i then some (True, .sub i ver off len, []) else match datum H (.sub i ver off len) with
    | some (p, x, u) => some (p, .d x.canon, u)
    | none => none
  | .agg cs => match datum H (.agg cs) with
    | some (p, x, u) => some (p, .d x.canon, u)
    | none => some ((parts1 H cs).1, .agg (parts1 H cs).2.1, (parts1 H cs).2.2)
  | .clo f fs cs => match parts1 H fs with
    | (p, fs', u) => match parts1 (hputs H u) cs with
      | (q, cs', u') => match allD fs', allD cs' with
        | some a, some b => some (p ∧ q, .d (.fn f a b), u ++ u')
        | _, _ => some (p ∧ q, .clo f fs' cs', u ++ u')
  | _ => none

/-- a result as it is: new objects are the caller's then -/
def finK : Av → Option (Prop × Av × List (Nat × Obj))
  | .tup _ | .any | .und => none
  | c => some (True, c, [])
/-- a result as data, nil slices as they are -/
def finD (H : Heap) (c : Av) : Option (Prop × Av × List (Nat × Obj)) := match datum H c with
  | some (p, x, u) => some (p, .d x, u)
  | none => none
/-- the ways to give back results: as they are, as data with nil slices as empty ones, as data -/
def fin1 (k : Option Bool) (H : Heap) (c : Av) : Option (Prop × Av × List (Nat × Obj)) := match k with
  | some true => finK c
  | some false => finF H c
  | none => finD H c

def fins (k : Option Bool) (H : Heap) : List Av → Option (Prop × List Av × List (Nat × Obj))
  | [] => some (True, [], [])
  | c :: r => match fin1 k H c with
    | some (p, v, u) => match fins k (hputs H u) r with
      | some (q, vs, u') => some (p ∧ q, v :: vs, u ++ u')
      | none => none
    | none => none

def retV : List Av → Av
  | [c] => c
  | cs => .tup cs

def sameT (H H' : Heap) : List (Nat × Obj) → Prop
  | [] => True
  | e :: r => H e.1 = H' e.1 ∧ sameT H H' r

def EndsK (k : Option Bool) (ris : List RI) (T : List (Nat × Obj)) (v : Av) (ups : List (Nat × Obj)) (e : Exit) (st : St) : Prop :=
  (e = .normal ∨ e = .ret) ∧ match outs ris st with
    | some (p, cs) => p ∧ match fins k (get st.hp) cs with
      | some (q, rs, u) => q ∧ retV rs = v ∧ sameT (hputs (get st.hp) u) (hputs (get T) ups) (T ++ ups)
      | none => False
    | none => False

abbrev Ends := EndsK false

def enum : Nat → List Av → List (Nat × Av)
  | _, [] => []
  | n, c :: r => (n, c) :: enum (n + 1) r

theorem get_enum : ∀ (cs : List Av) (n t : Nat), get (enum n cs) t = if n ≤ t then cs[t - n]? else none
  | [], n, t => by simp [enum, get]
  | c :: r, n, t => by
    simp only [enum, get, get_enum r (n + 1) t]
    by_cases h : n = t
    · subst h; simp
    · rw [if_neg h]
      by_cases h2 : n + 1 ≤ t
      · rw [if_pos h2, if_pos (by omega)]
        have : t - n = (t - (n + 1)) + 1 := by omega
        rw [this, List.getElem?_cons_succ]
      · rw [if_neg h2, if_neg (by omega)]

section
variable {P : Program} {β : Blocks} {A : Nat → Prop} {w : World} {H : Heap} {a : Act} {st : St}

theorem part1_ok {c : Av} {u : Value} (hc : Core β A w H) (hp : (part1 H c).1) (hv : VRep β A w H c u) :
    ∃ A', Stp β A w H β A' w (hputs H (part1 H c).2.2) ∧ VRep β A' w (hputs H (part1 H c).2.2) (part1 H c).2.1 u ∧ ∀ k, A k → A' k := by
  unfold part1 at hp ⊢
  by_cases hm : mine c = true
  · simp only [hm, if_true] at hp ⊢
    exact ⟨A, Stp.refl hc, hv, fun _ h => h⟩
  · simp only [hm, Bool.false_eq_true, if_false] at hp ⊢
    cases hd : datum H c with
    | none => exact ⟨A, Stp.refl hc, hv, fun _ h => h⟩
    | some q =>
      obtain ⟨p, x, us⟩ := q
      simp only [hd] at hp ⊢
      obtain ⟨A', g1, g2, g3⟩ := datum_ok hc hd hp hv
      exact ⟨A', g1, .d _ _ g2.canon, g3⟩

theorem parts1_ok : ∀ {cs : List Av} {us : List Value} {A : Nat → Prop} {H : Heap}, Core β A w H → (parts1 H cs).1 → cs.length = us.length →
    (∀ (i : Nat) c v, cs[i]? = some c → us[i]? = some v → VRep β A w H c v) →
    ∃ A', Stp β A w H β A' w (hputs H (parts1 H cs).2.2) ∧ (parts1 H cs).2.1.length = us.length ∧ (∀ (i : Nat) c v, (parts1 H cs).2.1[i]? = some c → us[i]? = some v → VRep β A' w (hputs H (parts1 H cs).2.2) c v) ∧ ∀ k, A k → A' k
  | [], us, A, H, hc, hp, hl, hv => ⟨A, Stp.refl hc, hl, by simp [parts1], fun _ h => h⟩
  | c :: cs, [], A, H, hc, hp, hl, hv => by simp at hl
  | c :: cs, u :: us, A, H, hc, hp, hl, hv => by
    simp only [parts1] at hp ⊢
    obtain ⟨A1, s1, r1, m1⟩ := part1_ok hc hp.1 (hv 0 c u rfl rfl)
    obtain ⟨A2, s2, l2, r2, m2⟩ := parts1_ok s1.core hp.2 (us := us) (by simpa using hl) (fun i c' v' h1 h2 => s1.vals _ _ (hv (i + 1) c' v' (by simpa using h1) (by simpa using h2)))
    refine ⟨A2, by rw [hputs_append]; exact s1.trans s2, by simp [l2], ?_, fun k h => m2 k (m1 k h)⟩
    rw [hputs_append]
    intro i z v h1 h2
    cases i with
    | zero => simp at h1 h2; rw [← h1, ← h2]; exact s2.vals _ _ r1
    | succ i => exact r2 i z v (by simpa using h1) (by simpa using h2)

theorem finF_ok {c v : Av} {u : Value} {p : Prop} {ups : List (Nat × Obj)} (hc : Core β A w H) (h : finF H c = some (p, v, ups)) (hp : p) (hv : VRep β A w H c u) :
    ∃ A', Stp β A w H β A' w (hputs H ups) ∧ VRep β A' w (hputs H ups) v u ∧ ∀ k, A k → A' k := by
  have dd : ∀ {c : Av} {p : Prop} {x : Dat} {us : List (Nat × Obj)}, datum H c = some (p, x, us) → p → VRep β A w H c u → ∃ A', Stp β A w H β A' w (hputs H us) ∧ VRep β A' w (hputs H us) (.d x.canon) u ∧ ∀ k, A k → A' k := by
    intro c p x us h hp hv
    obtain ⟨A', g1, g2, g3⟩ := datum_ok hc h hp hv
    exact ⟨A', g1, .d _ _ g2.canon, g3⟩
  have same : ∀ {c : Av}, VRep β A w H c u → ∃ A', Stp β A w H β A' w (hputs H []) ∧ VRep β A' w (hputs H []) c u ∧ ∀ k, A k → A' k := fun hv => ⟨A, Stp.refl hc, hv, fun _ h => h⟩
  unfold finF at h
  split at h
  · cases h; exact ⟨A, Stp.refl hc, .d _ _ hv.of_d.canon, fun _ h => h⟩
  · cases h
    exact same hv
  · cases h
    exact same hv
  · split at h <;> cases h
    exact same hv
  · split at h
    · cases h; exact same hv
    · split at h
      · rename_i q x us hd; cases h; exact dd hd hp hv
      · cases h
  · split at h
    · cases h; exact same hv
    · split at h
      · rename_i q x us hd; cases h; exact dd hd hp hv
      · cases h
  · split at h
    · cases h; exact same hv
    · split at h
      · rename_i q x us hd; cases h; exact dd hd hp hv
      · cases h
  · rename_i cs
    split at h
    · rename_i q x us hd; cases h; exact dd hd hp hv
    · simp only [Option.some.injEq, Prod.mk.injEq] at h
      obtain ⟨rfl, rfl, rfl⟩ := h
      cases hv with
      | agg _ arr hl h1 hv =>
        obtain ⟨A', s1, l1, r1, m1⟩ := parts1_ok hc hp (us := arr.toList) (by simpa using hl) (fun i c v h1 h2 => hv i c v h1 (by simpa using h2))
        exact ⟨A', s1, .agg _ _ (by simpa using l1) h1 (fun i c v h1 h2 => r1 i c v h1 (by simpa using h2)), m1⟩
  · rename_i f fs cs
    cases hv with
    | clo _ _ _ a1 a2 h1 h2 hf hv =>
      have key : ∀ p' (x' : Av) u', (parts1 H fs).1 ∧ (parts1 (hputs H (parts1 H fs).2.2) cs).1 ∧ u' = (parts1 H fs).2.2 ++ (parts1 (hputs H (parts1 H fs).2.2) cs).2.2 ∧ p' ∧
          (x' = .clo f (parts1 H fs).2.1 (parts1 (hputs H (parts1 H fs).2.2) cs).2.1 ∨ ∃ a b, allD (parts1 H fs).2.1 = some a ∧ allD (parts1 (hputs H (parts1 H fs).2.2) cs).2.1 = some b ∧ x' = .d (.fn f a b)) →
          ∃ A', Stp β A w H β A' w (hputs H u') ∧ VRep β A' w (hputs H u') x' (.func f a1 a2) ∧ ∀ k, A k → A' k := by
        rintro p' x' u' ⟨q1, q2, rfl, _, hx⟩
        obtain ⟨A1, s1, l1, r1, m1⟩ := parts1_ok hc q1 (us := a1.toList) (by simpa using h1) (fun i c v e1 e2 => hf i c v e1 (by simpa using e2))
        obtain ⟨A2, s2, l2, r2, m2⟩ := parts1_ok s1.core q2 (us := a2.toList) (by simpa using h2) (fun i c v e1 e2 => s1.vals _ _ (hv i c v e1 (by simpa using e2)))
        refine ⟨A2, by rw [hputs_append]; exact s1.trans s2, ?_, fun k h => m2 k (m1 k h)⟩
        rw [hputs_append]
        rcases hx with rfl | ⟨a, b, ha, hb, rfl⟩
        · exact .clo _ _ _ _ _ (by simpa using l1) (by simpa using l2) (fun i c v e1 e2 => s2.vals _ _ (r1 i c v e1 (by simpa using e2))) (fun i c v e1 e2 => r2 i c v e1 (by simpa using e2))
        · obtain ⟨la, ga⟩ := allD_get ha
          obtain ⟨lb, gb⟩ := allD_get hb
          exact .d _ _ (.fn _ _ _ _ _ (by rw [← la]; simpa using l1) (by rw [← lb]; simpa using l2) (fun i c v e1 e2 => (s2.vals _ _ (r1 i _ v (ga i c e1) (by simpa using e2))).of_d) (fun i c v e1 e2 => (r2 i _ v (gb i c e1) (by simpa using e2)).of_d))
      split at h
      rename_i p1 fs' u1 e1
      split at h
      rename_i q1 cs' u2 e2
      have e1' : (parts1 H fs).1 = p1 ∧ (parts1 H fs).2.1 = fs' ∧ (parts1 H fs).2.2 = u1 := by rw [e1]; exact ⟨rfl, rfl, rfl⟩
      obtain ⟨f1, f2, f3⟩ := e1'
      rw [← f3] at e2
      have e2' : (parts1 (hputs H (parts1 H fs).2.2) cs).1 = q1 ∧ (parts1 (hputs H (parts1 H fs).2.2) cs).2.1 = cs' ∧ (parts1 (hputs H (parts1 H fs).2.2) cs).2.2 = u2 := by rw [e2]; exact ⟨rfl, rfl, rfl⟩
      obtain ⟨g1, g2, g3⟩ := e2'
      split at h
      · rename_i a b ha hb
        simp only [Option.some.injEq, Prod.mk.injEq] at h
        obtain ⟨rfl, rfl, rfl⟩ := h
        exact key True _ _ ⟨by rw [f1]; exact hp.1, by rw [g1]; exact hp.2, by rw [g3, f3], trivial, .inr ⟨a, b, by rw [f2]; exact ha, by rw [g2]; exact hb, rfl⟩⟩
      · simp only [Option.some.injEq, Prod.mk.injEq] at h
        obtain ⟨rfl, rfl, rfl⟩ := h
        exact key True _ _ ⟨by rw [f1]; exact hp.1, by rw [g1]; exact hp.2, by rw [g3, f3], trivial, .inl (by rw [f2, g2])⟩
  · cases h

theorem fin1_ok {k : Option Bool} {c v : Av} {u : Value} {p : Prop} {ups : List (Nat × Obj)} (hc : Core β A w H) (h : fin1 k H c = some (p, v, ups)) (hp : p) (hv : VRep β A w H c u) :
    ∃ A', Stp β A w H β A' w (hputs H ups) ∧ VRep β A' w (hputs H ups) v u ∧ ∀ k, A k → A' k := by
  rcases k with _ | k
  · have h : finD H c = some (p, v, ups) := h
    unfold finD at h
    split at h
    · rename_i q x us hd
      cases h
      obtain ⟨A', g1, g2, g3⟩ := datum_ok hc hd hp hv
      exact ⟨A', g1, .d _ _ g2, g3⟩
    · cases h
  cases k with
  | false => exact finF_ok hc h hp hv
  | true =>
    have h : finK c = some (p, v, ups) := h
    unfold finK at h
    split at h
    · cases h
    · cases h
    · cases h
    · cases h; exact ⟨A, Stp.refl hc, hv, fun _ h => h⟩

theorem fins_ok {k : Option Bool} : ∀ {cs : List Av} {us : List Value} {A : Nat → Prop} {H : Heap} {p : Prop} {vs : List Av} {ups : List (Nat × Obj)}, Core β A w H → fins k H cs = some (p, vs, ups) → p → cs.length = us.length →
    (∀ (i : Nat) c v, cs[i]? = some c → us[i]? = some v → VRep β A w H c v) →
    ∃ A', Stp β A w H β A' w (hputs H ups) ∧ vs.length = us.length ∧ (∀ (i : Nat) c v, vs[i]? = some c → us[i]? = some v → VRep β A' w (hputs H ups) c v) ∧ ∀ k, A k → A' k
  | [], us, A, H, p, vs, ups, hc, h, hp, hl, hv => by
    simp only [fins, Option.some.injEq, Prod.mk.injEq] at h
    obtain ⟨_, rfl, rfl⟩ := h
    exact ⟨A, Stp.refl hc, hl, by simp, fun _ h => h⟩
  | c :: cs, [], A, H, p, vs, ups, hc, h, hp, hl, hv => by simp at hl
  | c :: cs, u :: us, A, H, p, vs, ups, hc, h, hp, hl, hv => by
    simp only [fins] at h
    cases e1 : fin1 k H c with
    | none => simp [e1] at h
    | some q =>
      obtain ⟨p1, x, u1⟩ := q
      simp only [e1] at h
      cases e2 : fins k (hputs H u1) cs with
      | none => simp [e2] at h
      | some q2 =>
        obtain ⟨p2, xs', u2⟩ := q2
        simp only [e2, Option.some.injEq, Prod.mk.injEq] at h
        obtain ⟨rfl, rfl, rfl⟩ := h
        obtain ⟨A1, s1, r1, m1⟩ := fin1_ok hc e1 hp.1 (hv 0 c u rfl rfl)
        obtain ⟨A2, s2, l2, r2, m2⟩ := fins_ok s1.core e2 hp.2 (us := us) (by simpa using hl) (fun i c' v' h1 h2 => s1.vals _ _ (hv (i + 1) c' v' (by simpa using h1) (by simpa using h2)))
        refine ⟨A2, by rw [hputs_append]; exact s1.trans s2, by simp [l2], ?_, fun k h => m2 k (m1 k h)⟩
        rw [hputs_append]
        intro i z v h1 h2
        cases i with
        | zero => simp at h1 h2; rw [← h1, ← h2]; exact s2.vals _ _ r1
        | succ i => exact r2 i z v (by simpa using h1) (by simpa using h2)

def resOne (tmps : Array Value) : ResultVar → Sem Value
  | .tmp t => pure (tmps.getD t undef)
  | .cell ad t => do loadVar t (← asAddr (tmps.getD ad undef))

theorem fin1_ntup {k : Option Bool} {c v : Av} {p : Prop} {u : List (Nat × Obj)} (h : fin1 k H c = some (p, v, u)) : ∀ l, v ≠ .tup l := by
  intro l hl
  subst hl
  rcases k with _ | k
  · have h : finD H c = some (p, .tup l, u) := h
    unfold finD at h
    split at h <;> cases h
  cases k with
  | false =>
    have h : finF H c = some (p, .tup l, u) := h
    unfold finF at h
    repeat' split at h
    all_goals cases h
  | true =>
    have h : finK c = some (p, .tup l, u) := h
    cases c <;> simp [finK] at h

theorem fins_ntup {k : Option Bool} : ∀ {cs vs : List Av} {H : Heap} {p : Prop} {u : List (Nat × Obj)}, fins k H cs = some (p, vs, u) → ∀ c ∈ vs, ∀ l, c ≠ .tup l
  | [], vs, H, p, u, h => by simp only [fins, Option.some.injEq, Prod.mk.injEq] at h; obtain ⟨_, rfl, _⟩ := h; simp
  | c :: cs, vs, H, p, u, h => by
    simp only [fins] at h
    cases e1 : fin1 k H c with
    | none => simp [e1] at h
    | some q =>
      obtain ⟨p1, x, u1⟩ := q
      simp only [e1] at h
      cases e2 : fins k (hputs H u1) cs with
      | none => simp [e2] at h
      | some q2 =>
        obtain ⟨p2, xs', u2⟩ := q2
        simp only [e2, Option.some.injEq, Prod.mk.injEq] at h
        obtain ⟨_, rfl, _⟩ := h
        intro c' hc'
        rcases List.mem_cons.1 hc' with rfl | h
        · exact fin1_ntup e1
        · exact fins_ntup e2 c' h

/-- the results are read -/
theorem outs_ok {N : Nat} (hs : SatB N st a w β A) : ∀ {rvs : List ResultVar} {ris : List RI} {p : Prop} {cs : List Av}, allSome (rvs.map (trRes P)) = some ris → outs ris st = some (p, cs) → p →
    ∃ us : List Value, (rvs.mapM (resOne a.tmps)).run P w = .ok us w ∧ cs.length = us.length ∧
      ∀ (i : Nat) c v, cs[i]? = some c → us[i]? = some v → VRep β A w (get st.hp) c v
  | [], ris, p, cs, h1, h2, hp => by
    simp only [List.map_nil, allSome, Option.some.injEq] at h1
    subst h1
    simp only [outs, Option.some.injEq, Prod.mk.injEq] at h2
    obtain ⟨_, rfl⟩ := h2
    exact ⟨[], by simp, rfl, by simp⟩
  | rv :: rvs, ris, p, cs, h1, h2, hp => by
    simp only [List.map_cons] at h1
    cases e1 : trRes P rv with
    | none => simp [e1, allSome] at h1
    | some ri =>
      simp only [e1, allSome] at h1
      obtain ⟨ris', h3, rfl⟩ := map_some_eq h1
      have fin : ∀ (c : Av) (q : Prop) (cs' : List Av) (u : Value), outs ris' st = some (q, cs') → q → VRep β A w (get st.hp) c u →
          (resOne a.tmps rv).run P w = .ok u w → cs = c :: cs' →
          ∃ us : List Value, ((rv :: rvs).mapM (resOne a.tmps)).run P w = .ok us w ∧ cs.length = us.length ∧
            ∀ (i : Nat) c v, cs[i]? = some c → us[i]? = some v → VRep β A w (get st.hp) c v := by
        intro c q cs' u h2' hq hv hr hcs
        subst hcs
        obtain ⟨us, g1, g2, g3⟩ := outs_ok hs h3 h2' hq
        refine ⟨u :: us, ?_, by simp [g2], ?_⟩
        · rw [List.mapM_cons]
          simp only [Sem.run_bind, hr, Result.andThen_ok, g1, Sem.run_pure]
        · intro i c' v' hc' hv'
          cases i with
          | zero => simp at hc' hv'; rw [← hc', ← hv']; exact hv
          | succ i => exact g3 i c' v' (by simpa using hc') (by simpa using hv')
      cases rv with
      | tmp t =>
        simp only [trRes, Option.some.injEq] at e1
        subst e1
        simp only [outs] at h2
        split at h2
        · rename_i c q cs' hc hq
          cases h2
          obtain ⟨u, g1, g2⟩ := hs.tmps t c hc
          exact fin c p cs' u hq hp g2 (by simp [resOne, Array.getD_eq_getD_getElem?, g1]) rfl
        · cases h2
      | cell ad t =>
        obtain ⟨n, hn, rfl⟩ := map_some_eq (by simpa only [trRes] using e1)
        simp only [outs] at h2
        split at h2
        · rename_i x q cs' hx hq
          cases h2
          obtain ⟨u, hrun, hv, _⟩ := ld_ok (P := P) (a := a) (o := { dst := none, op := .load t (.tmp ad), type := 0, pos := "", after := #[], guard := none }) hs.core hs.tmps rfl hn rfl hx hp.1
          refine fin x.v q cs' u hq hp.2 hv ?_ rfl
          simp only [execOp, Instr.loadAt, Act.eval] at hrun
          simp only [resOne]
          generalize a.tmps.getD ad undef = z at hrun ⊢
          cases z with
          | pointer ad' =>
            cases ad' with
            | none => simp [Instr.sureAddr, Sem.run_bind] at hrun
            | some ad' =>
              simp only [Instr.sureAddr, asAddr, Sem.run_bind, Sem.run_pure, Result.andThen_ok] at hrun ⊢
              generalize (loadVar t ad').run P w = rr at hrun ⊢
              cases rr with
              | ok u' w' => simp at hrun; obtain ⟨rfl, rfl⟩ := hrun; rfl
              | halt _ _ => simp at hrun
          | _ => simp [Instr.sureAddr, Sem.run_bind] at hrun
        · cases h2

theorem Av.ren_id (c : Av) : c.ren id = c :=
  Av.rec (motive_1 := fun c => c.ren id = c) (motive_2 := fun cs => renL id cs = cs) (fun _ => rfl) (fun _ _ => rfl) (fun _ _ => rfl) (fun _ _ _ _ => rfl) (fun _ _ _ _ => rfl)
    (fun cs ih => by simp only [Av.ren, ih]) (fun cs ih => by simp only [Av.ren, ih]) (fun f a b iha ihb => by simp only [Av.ren, iha, ihb]) (fun _ => rfl) (fun _ _ => rfl) rfl rfl rfl (fun c r ihc ihr => by simp only [renL, ihc, ihr]) c
theorem renT_id : ∀ l : List (Nat × Av), renT id l = l
  | [] => rfl
  | (t, c) :: r => by simp only [renT, Av.ren_id, renT_id r]
theorem renL_id (cs : List Av) : renL id cs = cs := by rw [renL_map]; induction cs with | nil => rfl | cons c r ih => simp only [List.map_cons, Av.ren_id, ih]
theorem Obj.ren_id (o : Obj) : o.ren id = o := by
  cases o with
  | box cs => simp only [Obj.ren, renL_id]
  | lp l => simp only [Obj.ren, renT_id]
  | _ => rfl

theorem sameT_ok {H H' : Heap} : ∀ {T : List (Nat × Obj)}, sameT H H' T → ∀ e ∈ T, H e.1 = H' e.1
  | [], _, _, h => by cases h
  | e :: r, hs, e', h => by
    rcases List.mem_cons.1 h with rfl | h
    · exact hs.1
    · exact sameT_ok hs.2 e' h

/-- a part of the objects -/
theorem cut_ok {E : Ent} {G1 H2 : Heap} {β' : Blocks} {A' : Nat → Prop} {w' : World} (hs : Since E β' A' w' H2) (hc : Core β' A' w' H2) (hle : ∀ i o, G1 i = some o → H2 i = some o) (hcl : closed G1) (hdom : ∀ i, (E.H i).isSome = true → (G1 i).isSome = true) :
    Since E β' A' w' G1 ∧ Core β' A' w' G1 ∧ ∀ c u, inT G1 c → VRep β' A' w' H2 c u → VRep β' A' w' G1 c u := by
  have hun : Under id G1 H2 := fun i o hi => by rw [Obj.ren_id]; exact hle i o hi
  have cut : ∀ c u, inT G1 c → VRep β' A' w' H2 c u → VRep β' A' w' G1 c u := fun c u hin hvr => VRep.unren (ρ := id) (β := β') hun hvr c (Av.ren_id c).symm hin
  refine ⟨⟨hs.os, hs.tape, hs.output, hs.size, hs.same, hs.loops, hs.data, fun i o b hi hl hb => hs.mine i o b (hle i o hi) hl hb, ?_⟩, Core.unren (ρ := id) (β := β') hc hun (fun _ _ _ _ h => h) hcl, cut⟩
  intro c u hb hvr
  refine cut c u ?_ (hs.vals c u hb hvr)
  cases hvr with
  | d _ _ _ => trivial
  | ref _ _ _ _ _ _ h0 _ _ => exact hdom _ h0
  | ms _ _ _ _ h0 _ _ => exact hdom _ h0
  | sub _ _ _ _ _ _ h0 _ _ => exact hdom _ h0
  | el _ _ _ _ _ _ _ _ h0 _ => exact hdom _ h0
  | mp _ _ _ h0 _ _ _ => exact hdom _ h0
  | tr _ _ _ _ h0 _ _ => exact hdom _ h0
  | _ => exact hb.elim

/-- a block of nobody's is turned -/
theorem Core.nobody (hc : Core β A w H) {r : Nat} {o' : Go.Obj} (hA : ¬ A r) (hn : ∀ i o, H i = some o → o.live = true → ¬ (β i).has r) :
    Core β A (w.putObj r o') H ∧ ∀ c u, VRep β A w H c u → VRep β A (w.putObj r o') H c u := by
  have hsA : SameOn A w (w.putObj r o') := fun b hb => World.putObj_heap_other (fun e => hA (e ▸ hb))
  have hoth : ∀ j o b, H j = some o → o.live = true → (β j).has b → (w.putObj r o').heap[b]? = w.heap[b]? := fun j o b h1 h2 h3 => World.putObj_heap_other (fun e => hn j o h1 h2 (e ▸ h3))
  have hd : ∀ x u, Rep A w x u → Rep A (w.putObj r o') x u := fun x u h => h.mono hsA fun _ h => h
  have hall : ∀ c u, VRep β A w H c u → VRep β A (w.putObj r o') H c u := by
    refine VRep.of_base hd ?_ ?_ ?_ ?_ ?_ ?_
    · intro i off u h
      cases h with | ref _ _ b p _ hu h0 h1 h2 => exact .ref _ _ b p _ hu h0 h1 fun ds hds => hd _ _ (h2 ds hds)
    · intro i ver u h
      cases h with
      | ms _ _ _ hu h0 h1 h2 =>
        refine .ms _ _ _ hu h0 ?_ fun sz xs hds => hd _ _ (h2 sz xs hds)
        intro v' sz xs hr
        obtain ⟨hle, hx⟩ := h1 v' sz xs hr
        refine ⟨hle, fun hve => ?_⟩
        rcases hx hve with ⟨e1, e2⟩ | ⟨b, C, T, fz, cap, e1, e2, e3⟩
        · exact .inl ⟨e1, e2⟩
        · exact .inr ⟨b, C, T, fz, cap, e1, by rw [hoth i _ b hr rfl (by rw [e1]; exact BK.has_one.2 rfl)]; exact e2, e3⟩
    · intro i ver off len u h
      cases h with
      | sub _ _ _ _ _ hu h0 h1 h2 =>
        refine .sub _ _ _ _ _ hu h0 ?_ fun sz xs hds => hd _ _ (h2 sz xs hds)
        intro v' sz xs hr
        obtain ⟨hle, hx⟩ := h1 v' sz xs hr
        refine ⟨hle, fun hve => ?_⟩
        obtain ⟨g, ⟨e1, e2⟩ | ⟨b, C, T, fz, cap, ad, e1, e2, e3⟩⟩ := hx hve
        · exact ⟨g, .inl ⟨e1, e2⟩⟩
        · exact ⟨g, .inr ⟨b, C, T, fz, cap, ad, e1, by rw [hoth i _ b hr rfl (by rw [e1]; exact BK.has_one.2 rfl)]; exact e2, e3⟩⟩
    · intro i ver k off u h
      cases h with | el _ _ _ _ b p _ hu h0 h1 => exact .el _ _ _ _ b p _ hu h0 h1
    · intro i u h
      cases h with | mp _ _ hu h0 h1 h2 h3 => exact .mp _ _ hu h0 h1 h2 h3
    · intro i h u hv
      cases hv with
      | tr _ _ _ hu h0 hk h1 =>
        refine .tr _ _ _ hu h0 hk fun v' s' sz xs hr => ?_
        obtain ⟨l1, l2, h2⟩ := h1 v' s' sz xs hr
        exact ⟨l1, l2, fun g1 g2 => (h2 g1 g2).mono (hc.objs _ _ hr) rfl fun b hb => hoth i _ b hr rfl hb⟩
  exact ⟨⟨fun i o h => (hc.objs i o h).mono hall hsA (fun _ h => h) rfl fun b hb hl => hoth i o b h hl hb, hc.inj, hc.sep, fun b hb => by simpa using hc.old b hb, fun g cs hg => (hc.glob g cs hg).mono hsA fun _ h => h⟩, hall⟩

/-- a function leaves: the marks of its loops are taken -/
theorem leave_marks {E : Ent} {N : Nat} {n : Nat} {fn : Func} {R : Ending → World → Prop} : ∀ (ms : List Nat) (a : Act) (w : World), ms.Nodup → a.defers = ms.map (fun r => { target := .collected r, args := #[] }) →
    (∀ r ∈ ms, E.w.heap.size ≤ r ∧ w.heap[r]? = some (.deferred (some [])) ∧ ¬ A r ∧ ∀ i o, get st.hp i = some o → o.live = true → ¬ (β i).has r) → Since E β A w (get st.hp) → SatB N st a w β A →
    (∀ w', Since E β A w' (get st.hp) → SatB N st { a with defers := [] } w' β A → ∃ v, (results fn a.tmps).run P w' = .ok v w' ∧ R (.returned v) w') → LeavesInM Fence.wide n P fn a.tmps R a.defers .returning w
  | [], a, w, _, hd, _, hs, hb, hk => by
    rw [hd]
    simp only [List.map_nil, LeavesInM, LeavesIn]
    exact hk w hs ⟨hb.core, hb.tmps, hb.size⟩
  | r :: ms, a, w, hnd, hd, hm, hs, hb, hk => by
    rw [hd]
    simp only [List.map_cons, LeavesInM]
    refine ⟨by simp, .inl ⟨r, _, rfl, run_takeDeferred (hm r List.mem_cons_self).2.1, ?_⟩⟩
    obtain ⟨g1, g2, g3, g4⟩ := hm r List.mem_cons_self
    obtain ⟨c1, v1⟩ := hb.core.nobody (o' := .deferred none) g3 g4
    have hnd' := List.nodup_cons.1 hnd
    have hs' : Since E β A (w.putObj r (.deferred none)) (get st.hp) := by
      refine ⟨hs.os, hs.tape, hs.output, by simpa using hs.size, ?_, ?_, hs.data, hs.mine, fun c u hbs hv => v1 _ _ (hs.vals c u hbs hv)⟩
      · intro b hlt hn
        rw [World.putObj_heap_other (by omega)]
        exact hs.same b hlt hn
      · intro b l hl
        obtain ⟨l', h'⟩ := hs.loops b l hl
        refine ⟨l', ?_⟩
        rw [World.putObj_heap_other]
        · exact h'
        · intro e; subst e; rw [g2] at h'; cases h'
    have := leave_marks (n := n) (fn := fn) (R := R) (E := E) (N := N) ms { a with defers := ms.map (fun r => { target := .collected r, args := #[] }) } (w.putObj r (.deferred none)) hnd'.2 rfl ?_ hs' ⟨c1, fun t v ht => by obtain ⟨u, q1, q2⟩ := hb.tmps t v ht; exact ⟨u, q1, v1 _ _ q2⟩, hb.size⟩ hk
    · exact this
    · intro r' hr'
      obtain ⟨q1, q2, q3, q4⟩ := hm r' (List.mem_cons_of_mem _ hr')
      refine ⟨q1, ?_, q3, q4⟩
      rw [World.putObj_heap_other (by intro e; subst e; exact hnd'.1 hr')]
      exact q2

/-- the contract of a function, from its code -/
theorem Con.of_code {k : Option Bool} {f : Nat} {fn : Func} {code : Code} {ic : Ic} {ris : List RI} {args : List Av} {T : List (Nat × Obj)} {v : Av} {ups : List (Nat × Obj)} (hf : P.funcs[f]? = some fn) (hb : fn.body = some code)
    (hname : (fn.name == "runtime.NumGoroutine") = false) (htr : trCode P fn.ntmps code = some (strip ic)) (hres : allSome (fn.results.toList.map (trRes P)) = some ris) (hn : args.length ≤ fn.ntmps)
    (hcl : closed (hputs (get T) ups)) (hv : inT (hputs (get T) ups) v)
    (hw : wpc P D0 ic (EndsK k ris T v ups) ⟨enum 0 args, T⟩) : Con P f args T v ups := by
  refine ⟨⟨fn, hf, by rw [hb]; rfl, hname⟩, ?_⟩
  intro β A w vs hc hvs
  have hsize : args.length = vs.size := hvs.1
  refine callsIn_wide (n := 0) |>.1 (callsIn_of_wp_marks hf hb trivial ?_)
  have hsat : Sat ⟨β, A, w, get T, D0, none⟩ fn.ntmps ⟨enum 0 args, T⟩ { tmps := vs ++ Array.replicate (fn.ntmps - vs.size) undef, defers := [] } w β A := by
    refine ⟨hc, ?_, by simp; omega, ⟨rfl, rfl, rfl, Nat.le_refl _, fun _ _ _ => rfl, fun _ r h => ⟨r, h⟩, fun _ h => .inl h, fun i o b h1 h2 h3 => .inr ⟨i, o, h1, h2, h3⟩, fun _ _ _ h => h⟩, ⟨[], by simp, rfl, by simp⟩, by simp⟩
    intro t c ht
    simp only [get_enum, Nat.zero_le, if_true, Nat.sub_zero] at ht
    have hlt : t < args.length := (List.getElem?_eq_some_iff.1 ht).1
    have hvt : vs[t]? = some (vs[t]'(by omega)) := by simp [show t < vs.size by omega]
    exact ⟨vs[t]'(by omega), by rw [Array.getElem?_append_left (by omega)]; exact hvt, hvs.2 t c _ ht hvt⟩
  refine wpIn_mono (code_ok (E := ⟨β, A, w, get T, D0, none⟩) ic code _ _ _ w β A htr hw hsat) ?_
  rintro e a' w' ⟨st, β', A', ⟨he, hq⟩, hs⟩
  -- the results
  have main : ∀ w', Since ⟨β, A, w, get T, D0, none⟩ β' A' w' (get st.hp) → SatB fn.ntmps st { a' with defers := [] } w' β' A' →
      ∃ u, (results fn a'.tmps).run P w' = .ok u w' ∧ ∃ u' β' A', Ending.returned u = .returned u' ∧ Since ⟨β, A, w, get T, D0, none⟩ β' A' w' (hputs (get T) ups) ∧ Core β' A' w' (hputs (get T) ups) ∧ VRep β' A' w' (hputs (get T) ups) v u' := by
    intro w' hsince hsb
    split at hq
    case h_2 => exact hq.elim
    rename_i p cs ho
    obtain ⟨hp, hq⟩ := hq
    split at hq
    case h_2 => exact hq.elim
    rename_i q rs u0 hfi
    obtain ⟨hq', hret, hsame⟩ := hq
    obtain ⟨us, hrun, hlen, hval⟩ := outs_ok (P := P) hsb hres ho hp
    obtain ⟨A2, st2, hlen2, hval2, _⟩ := fins_ok hsb.core hfi hq' hlen hval
    have hsame' := sameT_ok hsame
    have hle : ∀ i o, hputs (get T) ups i = some o → hputs (get st.hp) u0 i = some o := by
      intro i o hi
      rcases hputs_dom' ups (get T) i (by rw [hi]; rfl) with h | ⟨e, he, rfl⟩
      · obtain ⟨o', ho'⟩ := Option.isSome_iff_exists.1 h
        rw [hsame' (i, o') (List.mem_append_left _ (get_mem T i o' ho')), hi]
      · rw [hsame' e (List.mem_append_right _ he), hi]
    obtain ⟨c1, c2, cut⟩ := cut_ok (hsince.trans st2) st2.core hle hcl (fun i hi => hputs_some ups _ i hi)
    refine ⟨if h : us.toArray.size = 1 then us.toArray[0] else .tuple us.toArray, ?_, _, β', A2, rfl, c1, c2, ?_⟩
    · have e : results fn a'.tmps = (do let vs ← fn.results.mapM (resOne a'.tmps); pure (if h : vs.size = 1 then vs[0] else .tuple vs)) := by
        unfold results
        congr 1
      rw [e, Array.mapM_eq_mapM_toList]
      simp only [Sem.run_bind, Sem.run_map, hrun, Sem.run_pure, Result.andThen_ok]
    · -- the value
      have tup : ∀ cs', v = .tup cs' → rs = cs' → us.toArray.size ≠ 1 → VRep β' A2 w' (hputs (get T) ups) v (if h : us.toArray.size = 1 then us.toArray[0] else .tuple us.toArray) := by
        intro cs' hv' hrs hne
        subst hv' hrs
        rw [dif_neg hne]
        refine .tup _ _ (by simpa using hlen2) ?_
        intro i c z hi hz
        exact cut c z (idsInL_get hv i c hi) (hval2 i c z hi (by simpa using hz))
      match rs, hret, hlen2, hval2, tup with
      | [c], hret, hlen2, hval2, _ =>
        have e : c = v := hret
        subst e
        have h1 : us.toArray.size = 1 := by simpa using hlen2.symm
        rw [dif_pos h1]
        have h0 : us[0]? = some us.toArray[0] := by simp [show 0 < us.length by simpa using Nat.lt_of_lt_of_eq Nat.zero_lt_one h1.symm]
        exact cut c _ hv (hval2 0 c _ rfl h0)
      | [], hret, hlen2, hval2, tup => exact tup [] hret.symm rfl (by simp at hlen2 ⊢; omega)
      | c1 :: c2 :: r, hret, hlen2, hval2, tup => exact tup _ hret.symm rfl (by simp at hlen2 ⊢; omega)
  obtain ⟨ms, m0, m1, m2⟩ := hs.marks
  have hl := leave_marks (P := P) (n := 0) (fn := fn) (E := ⟨β, A, w, get T, D0, none⟩) (N := fn.ntmps) (R := fun e w' => ∃ u β' A', e = .returned u ∧
    Since ⟨β, A, w, get T, D0, none⟩ β' A' w' (hputs (get T) ups) ∧ Core β' A' w' (hputs (get T) ups) ∧ VRep β' A' w' (hputs (get T) ups) v u) ms a' w' m0 m1 m2 hs.since hs.b main
  rcases he with rfl | rfl
  · exact hl
  · exact hl

/-- how a round ends: what yield gives back, and the loop's record -/
def roundEnd (e : Exit) (l : Lp) : Option (Av × Lp) := match e with
  | .normal => some (.d (.bool true), { l with s := .ready, j := none })
  | .ret => some (.d (.bool false), { l with s := .done, j := some .ret })
  | .exit id => some (.d (.bool false), { l with s := .done, j := some (.exit id) })
  | _ => none

def putArgs : List (Nat × Av) → List Nat → List Av → List (Nat × Av)
  | l, p :: ps, c :: cs => putArgs (put l p c) ps cs
  | l, _, _ => l

/-- what a round's end asks -/
def RoundEnds (lid : Nat) (T : List (Nat × Obj)) (D : Nat → Prop) (v : Av) (ups : List (Nat × Obj)) (e : Exit) (s : St) : Prop :=
  ∃ l l', get s.hp lid = some (.lp l) ∧ roundEnd e l = some (v, l') ∧ ∃ s', Wk D ⟨[], put s.hp lid (.lp l')⟩ s' ∧ ∀ i o, hputs (get T) ups i = some o → get s'.hp i = some o

theorem putArgs_ok : ∀ (ps : List Nat) (cs : List Av) (us : List Value) (l : List (Nat × Av)) (tmps : Array Value), ps.length = cs.length → cs.length = us.length → (∀ p ∈ ps, p < tmps.size) →
    (∀ t v, get l t = some v → ∃ u, tmps[t]? = some u ∧ VRep β A w H v u) → (∀ (i : Nat) c v, cs[i]? = some c → us[i]? = some v → VRep β A w H c v) →
    ((ps.zip us).foldl (fun (tmps : Array Value) x => tmps.setIfInBounds x.1 x.2) tmps).size = tmps.size ∧
      ∀ t v, get (putArgs l ps cs) t = some v → ∃ u, ((ps.zip us).foldl (fun (tmps : Array Value) x => tmps.setIfInBounds x.1 x.2) tmps)[t]? = some u ∧ VRep β A w H v u
  | [], [], us, l, tmps, _, _, _, hl, _ => ⟨rfl, hl⟩
  | p :: ps, c :: cs, u :: us, l, tmps, h1, h2, hb, hl, hv => by
    simp only [List.zip_cons_cons, List.foldl_cons, putArgs]
    obtain ⟨g1, g2⟩ := putArgs_ok ps cs us (put l p c) (tmps.setIfInBounds p u) (by simpa using h1) (by simpa using h2) (fun q hq => by simpa using hb q (List.mem_cons_of_mem _ hq)) (by
      intro t v ht
      rw [get_put] at ht
      split at ht
      · rename_i e
        subst e
        cases ht
        exact ⟨u, by simp [hb _ List.mem_cons_self], hv 0 _ _ rfl rfl⟩
      · rename_i e
        obtain ⟨u', q1, q2⟩ := hl t v ht
        exact ⟨u', by rw [Array.getElem?_setIfInBounds, if_neg (fun h => e h.symm)]; exact q1, q2⟩) (fun i c v q1 q2 => hv (i + 1) c v (by simpa using q1) (by simpa using q2))
    exact ⟨by rw [g1]; simp, g2⟩
  | [], _ :: _, _, _, _, h, _, _, _, _ => by simp at h
  | _ :: _, [], _, _, _, h, _, _, _, _ => by simp at h
  | _ :: _, _ :: _, [], _, _, _, h, _, _, _ => by simp at h

/-- the contract of a round, from the loop's code -/
theorem RCon.of_code {lid : Nat} {l : Lp} {asg body : Ic} {args : List Av} {T : List (Nat × Obj)} {v : Av} {ups : List (Nat × Obj)} (hl : get T lid = some (.lp l)) (hrd : l.s = .ready) (h1 : trCode P l.N l.asg = some (strip asg))
    (h2 : trCode P l.N l.body = some (strip body)) (hps : args.length = l.ps.size) (hpb : ∀ p ∈ l.ps.toList, p < l.N) (hcl : closed (hputs (get T) ups))
    (hw : wpc P (fun i => (get T i).isSome = true) asg (fun e s => e = .normal ∧ ∃ l', get s.hp lid = some (.lp l') ∧ l'.s = .ready ∧
      wpc P (fun i => (get T i).isSome = true) body (RoundEnds lid T (fun i => (get T i).isSome = true) v ups) ⟨s.tm, put s.hp lid (.lp { l' with s := .busy })⟩) ⟨putArgs l.tm l.ps.toList args, T⟩) : RCon P lid args T v ups := by
  intro β A w l0 vs hc hβ hvs
  obtain ⟨b, r, e1, e2, e3, e4, e6, e7, e8, e9, e10⟩ := hc.objs lid _ hl
  rw [hβ] at e1
  cases e1
  have hsz : vs.size = r.params.size := by rw [e6, ← hps]; exact hvs.1.symm
  refine ⟨r.fn, _, r.assign, r.body, run_yield e2 hsz, roundIn_of_wpIn trivial ?_⟩
  generalize hD : (fun i => (get T i).isSome = true) = D at hw
  let E : Ent := ⟨β, A, w, get T, D, some l0⟩
  have hfold : (r.params.zip vs).foldl (fun (tmps : Array Value) (x : Nat × Value) => tmps.setIfInBounds x.1 x.2) r.tmps = (l.ps.toList.zip vs.toList).foldl (fun (tmps : Array Value) x => tmps.setIfInBounds x.1 x.2) r.tmps := by
    rw [← Array.foldl_toList, Array.toList_zip, e6]
  have hpa := putArgs_ok (β := β) (A := A) (w := w) (H := get T) l.ps.toList args vs.toList l.tm r.tmps (by simpa using hps.symm) (by simpa using hvs.1) (fun p hp => by rw [e9]; exact hpb p hp) e10 (fun i c u q1 q2 => hvs.2 i c u q1 (by simpa using q2))
  have hy0 : VRep β A w (get T) (.mp lid) (.func (.yield l0) #[] #[]) := .mp _ _ rfl (by rw [hl]; rfl) (by rw [hl]; intro _ h; cases h) (fun _ _ => ⟨l0, hβ, rfl⟩) (by rw [hl]; intro _ _ h; cases h)
  have hDl : D lid := by rw [← hD]; show (get T lid).isSome = true; rw [hl]; rfl
  have hlid : ∀ {β' : Blocks} {A' : Nat → Prop} {w' : World} {H' : Heap} {l2 : Lp}, Since E β' A' w' H' → H' lid = some (.lp l2) → β' lid = some l0 := by
    intro β' A' w' H' l2 hs hl2
    cases hs.vals (.mp lid) _ hDl hy0 with
    | mp _ _ _ _ _ g2 _ =>
      obtain ⟨b, q1, q2⟩ := g2 _ hl2
      cases q2
      exact q1
  have hsat : Sat E l.N ⟨putArgs l.tm l.ps.toList args, T⟩ { tmps := (r.params.zip vs).foldl (fun tmps (t, a) => tmps.setIfInBounds t a) r.tmps, defers := [] } w β A := by
    refine ⟨hc, ?_, ?_, ⟨rfl, rfl, rfl, Nat.le_refl _, fun _ _ _ => rfl, fun _ r h => ⟨r, h⟩, fun _ h => .inl h, fun i o b h1 h2 h3 => .inr ⟨i, o, h1, h2, h3⟩, fun _ _ _ h => h⟩, ⟨[], by simp, rfl, by simp⟩, ?_⟩
    · intro t c ht
      show ∃ u, ((r.params.zip vs).foldl (fun (tmps : Array Value) (x : Nat × Value) => tmps.setIfInBounds x.1 x.2) r.tmps)[t]? = some u ∧ _
      rw [hfold]
      exact hpa.2 t c ht
    · show ((r.params.zip vs).foldl (fun (tmps : Array Value) (x : Nat × Value) => tmps.setIfInBounds x.1 x.2) r.tmps).size = _
      rw [hfold, hpa.1, e9]
    · intro l' hl'
      cases hl'
      exact ⟨r, e2⟩
  refine wpIn_mono (code_ok (E := E) (n := 0) asg r.assign _ _ _ w β A (by rw [e7]; exact h1) hw hsat) ?_
  rintro e a1 w1 ⟨s, β1, A1, ⟨rfl, l', g1, g2, g5⟩, hs1⟩
  obtain ⟨b, r1, q1, q2, q3, q4, q6, q7, q8, q9, q10⟩ := hs1.core.objs lid _ g1
  have hb1 := hlid hs1.since g1
  rw [hb1] at q1
  cases q1
  have hlt1 : l0 < w1.heap.size := (Array.getElem?_eq_some_iff.1 q2).1
  refine ⟨w1.putObj l0 (.loop { r1 with state := .busy }), run_beginRound q2 (by rw [q3, g2]), ?_⟩
  have hst1 := Stp.lpSet (r := { r1 with state := .busy }) (l' := { l' with s := .busy }) hs1.core g1 hb1 hlt1 ⟨rfl, q4, q6, q7, q8, q9⟩ q10
  have hput : ∀ (l2 : Lp) (hp : List (Nat × Obj)), upd (get hp) lid (some (.lp l2)) = get (put hp lid (.lp l2)) := fun l2 hp => funext fun j => by rw [get_put]; rfl
  rw [hput] at hst1
  have hs2 : Sat E l.N ⟨s.tm, put s.hp lid (.lp { l' with s := .busy })⟩ a1 (w1.putObj l0 (.loop { r1 with state := .busy })) β1 A1 :=
    hs1.step hst1 ⟨hst1.core, fun t v ht => by obtain ⟨u, p1, p2⟩ := hs1.tmps t v ht; exact ⟨u, p1, hst1.vals _ _ p2⟩, hs1.size⟩ rfl
  refine wpIn_mono (code_ok (E := E) (n := 0) body r.body _ _ _ _ β1 A1 (by rw [e8]; exact h2) g5 hs2) ?_
  rintro e a2 w2 ⟨s2, β2, A2, ⟨l2, l3, k1, k2, s3, hwk, hsame⟩, hs3⟩
  obtain ⟨b, r2, p1, p2, p3, p4, p6, p7, p8, p9, p10⟩ := hs3.core.objs lid _ k1
  have hb2 := hlid hs3.since k1
  rw [hb2] at p1
  cases p1
  have hlt2 : l0 < w2.heap.size := (Array.getElem?_eq_some_iff.1 p2).1
  have fin : ∀ (jump : Option Code) , v = .d (.bool jump.isNone) → l3 = { l2 with s := if jump.isNone then .ready else .done, j := jump } →
      ∃ v' w', (Instr.endRound l0 jump).run P w2 = .ok v' w' ∧ ∃ u, Ending.returned v' = .returned u ∧ ∃ β' A', Since ⟨β, A, w, get T, D, some l0⟩ β' A' w' (hputs (get T) ups) ∧ Core β' A' w' (hputs (get T) ups) ∧ VRep β' A' w' (hputs (get T) ups) v u := by
    intro jump hv hl3
    subst hl3
    refine ⟨_, _, run_endRound jump p2, _, rfl, ?_⟩
    have hst2 := Stp.lpSet (r := { r2 with state := if jump.isNone then .ready else .done, pending := jump }) (l' := { l2 with s := if jump.isNone then .ready else .done, j := jump }) hs3.core k1 hb2 hlt2 ⟨rfl, rfl, p6, p7, p8, p9⟩ p10
    rw [hput] at hst2
    have hs4 : Sat E l.N ⟨[], put s2.hp lid (.lp { l2 with s := if jump.isNone then .ready else .done, j := jump })⟩ a2 (w2.putObj l0 (.loop { r2 with state := if jump.isNone then .ready else .done, pending := jump })) β2 A2 :=
      hs3.step (st' := ⟨[], _⟩) hst2 ⟨hst2.core, (fun t v ht => by cases ht), hs3.size⟩ rfl
    obtain ⟨β3, A3, hs5⟩ := hs4.wk hwk
    obtain ⟨c1, c2, _⟩ := cut_ok hs5.since hs5.core hsame hcl (fun i hi => hputs_some ups _ i hi)
    exact ⟨β3, A3, c1, c2, by rw [hv]; exact .d _ _ (.bool _)⟩
  cases e with
  | normal => simp only [roundEnd, Option.some.injEq, Prod.mk.injEq] at k2; exact fin none k2.1.symm k2.2.symm
  | ret => simp only [roundEnd, Option.some.injEq, Prod.mk.injEq] at k2; exact fin (some .ret) k2.1.symm k2.2.symm
  | exit id => simp only [roundEnd, Option.some.injEq, Prod.mk.injEq] at k2; exact fin (some (.exit id)) k2.1.symm k2.2.symm
  | _ => simp [roundEnd] at k2
end
end Av

namespace Av
open Go
variable [Glb] [Rls]

/-- the function has this intermediate form -/
structure FnOk (P : Program) (f N : Nat) (ic : Ic) (ris : List RI) : Prop where
  ex : ∃ fn code, P.funcs[f]? = some fn ∧ fn.body = some code ∧ (fn.name == "runtime.NumGoroutine") = false ∧ fn.ntmps = N ∧ trCode P N code = some (strip ic) ∧ allSome (fn.results.toList.map (trRes P)) = some ris

theorem FnOk.of {P : Program} {f N : Nat} {ic : Ic} {ris : List RI} {fn : Func} (hf : P.funcs[f]? = some fn) (hname : (fn.name == "runtime.NumGoroutine") = false) (hn : fn.ntmps = N)
    (htr : (fn.body.bind (trCode P N)) = some (strip ic)) (hres : allSome (fn.results.toList.map (trRes P)) = some ris) : FnOk P f N ic ris := by
  cases hb : fn.body with
  | none => rw [hb] at htr; cases htr
  | some code => rw [hb] at htr; exact ⟨fn, code, hf, hb, hname, hn, htr, hres⟩

/-- a part of code -/
def subC : Code → List Nat → Code
  | c, [] => c
  | .seq a _, 0 :: r => subC a r
  | .seq _ b, _ :: r => subC b r
  | .cond _ a _, 0 :: r => subC a r
  | .cond _ _ b, _ :: r => subC b r
  | .block _ b, _ :: r => subC b r
  | .scope b, _ :: r => subC b r
  | .loop b, _ :: r => subC b r
  | .rangeFunc _ _ a _, 0 :: r => subC a r
  | .rangeFunc _ _ _ b, _ :: r => subC b r
  | c, _ => c
def codeOf (fn : Func) : Code := fn.body.getD .skip

/-- a contract without objects -/
abbrev PCon (P : Program) (f : Nat) (args : List Dat) (v : Av) : Prop := Con P f (args.map .d) [] v []

theorem FnOk.con {k : Option Bool} {P : Program} {f N : Nat} {ic : Ic} {ris : List RI} (h : FnOk P f N ic ris) {args : List Av} {T : List (Nat × Obj)} {v : Av} {ups : List (Nat × Obj)} (hn : args.length ≤ N)
    (hcl : closed (hputs (get T) ups)) (hv : inT (hputs (get T) ups) v) (hw : wpc P D0 ic (EndsK k ris T v ups) ⟨enum 0 args, T⟩) : Con P f args T v ups := by
  obtain ⟨fn, code, h1, h2, h3, h4, h5, h6⟩ := h.ex
  subst h4
  exact Con.of_code h1 h2 h3 h5 h6 hn hcl hv hw

/-- a contract without objects, from the code -/
theorem FnOk.pcon {P : Program} {f N : Nat} {ic : Ic} {ris : List RI} (h : FnOk P f N ic ris) {args : List Dat} {v : Av} (hn : args.length ≤ N) (hv : inTR (get []) v)
    (hw : wpc P D0 ic (Ends ris [] v []) ⟨enum 0 (args.map .d), []⟩) : PCon P f args v :=
  h.con (by simpa using hn) (by intro i o h; cases h) hv hw

/-- data and tuples of data -/
def pureR : Av → Prop
  | .d _ => True
  | .tup cs => ∀ c ∈ cs, ∃ x, c = .d x
  | _ => False

theorem PCon.call {P : Program} {f : Nat} {args : List Dat} {v : Av} (h : PCon P f args v) (hv : pureR v) : CallOK P f (args.map .d) [] v [] := by
  have hin : inT (get []) v := by
    cases v with
    | d x => trivial
    | tup cs =>
      show idsInL _ cs
      have hv' : ∀ c ∈ cs, ∃ x, c = .d x := hv
      clear hv h
      induction cs with
      | nil => trivial
      | cons c r ih =>
        obtain ⟨x, rfl⟩ := hv' c List.mem_cons_self
        exact ⟨trivial, ih fun c hc => hv' c (List.mem_cons_of_mem _ hc)⟩
    | _ => exact hv.elim
  have := Con.call h id (by intro i h; cases h) (by intro i j h; cases h) (by intro c hc; obtain ⟨x, _, rfl⟩ := List.mem_map.1 hc; trivial) (by intro i o h; cases h) [] (by simp) (by intro i o h; cases h) hin
  have e1 : (args.map Av.d).map (Av.ren id) = args.map .d := by simp [Av.ren]
  rw [e1, Av.ren_id] at this
  exact this

theorem VRep.canon {β : Blocks} {A : Nat → Prop} {w : World} {H : Heap} {x : Dat} {u : Value} (h : VRep β A w H (.d x) u) : VRep β A w H (.d x.canon) u := .d _ _ h.of_d.canon

def Av.canon : Av → Av
  | .d x => .d x.canon
  | v => v

theorem VRep.canonA {β : Blocks} {A : Nat → Prop} {w : World} {H : Heap} {c : Av} {u : Value} (h : VRep β A w H c u) : VRep β A w H c.canon u := by
  cases c with
  | d x => exact VRep.canon h
  | _ => exact h

/-- a call may see nil slices as empty ones -/
theorem CallOK.canon {P : Program} {f : Cee} {args : List Av} {T : List (Nat × Option Obj)} {v : Av} {ups : List (Nat × Obj)} (h : CallOK P f (args.map Av.canon) T v ups) : CallOK P f args T v ups := by
  refine fun β A w H vs hT hc hvs => h β A w H vs hT hc ⟨by simpa using hvs.1, ?_⟩
  intro i c u hi hu
  rw [List.getElem?_map] at hi
  cases e : args[i]? with
  | none => simp [e] at hi
  | some c0 => simp only [e, Option.map_some, Option.some.injEq] at hi; subst hi; exact (hvs.2 i c0 u e hu).canonA

end Av
namespace Av
open Go
variable [Glb] [Rls]
section
variable {P : Program} {D : Nat → Prop} {Q : Exit → St → Prop} {st : St}
@[congr] theorem wpc_congr {b : Ic} {st' : St} (h : st = st') : wpc P D b Q st = wpc P D b Q st' := by rw [h]
@[congr] theorem wps_congr {s : Ss} {K : St → Prop} {st' : St} (h : st = st') : wps P s K st = wps P s K st' := by rw [h]
theorem wps_nil (K : St → Prop) : wps P .nil K st = K st := rfl
theorem wps_op (d : Option Nat) (o : IOp) (r : Ss) (K : St → Prop) : wps P (.op d o r) K st = match step (get st.tm) (get st.hp) (d.getD 0) o with
    | some x => x.c ∧ wps P r K (st.app d x.v x.ups)
    | none => False := rfl
/-- && and ||: the second operand is asked for, or it is not -/
def scQ (P : Program) (x b : Bool) (body : Ss) (y : Opd) (d : Nat) (r : Ss) (K : St → Prop) (st : St) : Prop :=
  ∃ (yv : Bool) (hp : List (Nat × Obj)), (x = b → wps P body (fun st' => val (get st'.tm) y = some (.d (.bool yv)) ∧ st'.hp = hp) st) ∧ (x ≠ b → hp = st.hp) ∧
        wps P r K ⟨put (drops st.tm body.dsts) d (.d (.bool (if b then x && yv else x || yv))), hp⟩
theorem wps_sc (c : Nat) (b : Bool) (body : Ss) (y : Opd) (d : Nat) (r : Ss) (K : St → Prop) : wps P (.sc c b body y d r) K st = match get st.tm c with
    | some (.d (.bool x)) => scQ P x b body y d r K st
    | _ => False := rfl
theorem wps_ex : ∀ (s : Ss) (K : St → Prop) (st : St), wps P s K st → ∃ st', K st' ∧ wps P s (fun s => s = st') st
  | .nil, K, st, h => ⟨st, h, rfl⟩
  | .op d o r, K, st, h => by
    simp only [wps] at h ⊢
    split at h
    · obtain ⟨st', h1, h2⟩ := wps_ex r K _ h.2
      exact ⟨st', h1, h.1, h2⟩
    · exact h.elim
  | .call d f args r, K, st, h => by
    simp only [wps] at h ⊢
    split at h
    · obtain ⟨T, v, ups, hp, h1, h2, h3, h4⟩ := h
      obtain ⟨st', g1, g2⟩ := wps_ex r K _ h4
      exact ⟨st', g1, T, v, ups, hp, h1, h2, h3, g2⟩
    · exact h.elim
  | .sc c b body y d r, K, st, h => by
    simp only [wps] at h ⊢
    split at h
    · obtain ⟨yv, hp, h1, h2, h3⟩ := h
      obtain ⟨st', g1, g2⟩ := wps_ex r K _ h3
      exact ⟨st', g1, yv, hp, h1, h2, g2⟩
    · exact h.elim
theorem wps_imp {K K' : St → Prop} (hK : ∀ s, K s → K' s) (s : Ss) (st : St) (h : wps P s K st) : wps P s K' st := by
  obtain ⟨st', h1, h2⟩ := wps_ex s K st h
  have main : ∀ (s : Ss) (st : St), wps P s (fun s => s = st') st → wps P s K' st := by
    intro s
    induction s with
    | nil => intro st h; have h : st = st' := h; subst h; exact hK _ h1
    | op d o r ih =>
      intro st h
      simp only [wps] at h ⊢
      split at h
      · exact ⟨h.1, ih _ h.2⟩
      · exact h.elim
    | call d f args r ih =>
      intro st h
      simp only [wps] at h ⊢
      split at h
      · obtain ⟨T, v, ups, hp, h1, h2, h3, h4⟩ := h; exact ⟨T, v, ups, hp, h1, h2, h3, ih _ h4⟩
      · exact h.elim
    | sc c b body y d r ihb ihr =>
      intro st h
      simp only [wps] at h ⊢
      split at h
      · obtain ⟨yv, hp, h1, h2, h3⟩ := h; exact ⟨yv, hp, h1, h2, ihr _ h3⟩
      · exact h.elim
  exact main s st h2
/-- nothing is written for the second operand -/
theorem scQ_pure {x b : Bool} {body : Ss} {y : Opd} {d : Nat} {r : Ss} {K : St → Prop} (yv : Bool) (h1 : x = b → wps P body (fun st' => val (get st'.tm) y = some (.d (.bool yv)) ∧ st'.hp = st.hp) st)
    (h2 : wps P r K ⟨put (drops st.tm body.dsts) d (.d (.bool (if b then x && yv else x || yv))), st.hp⟩) : scQ P x b body y d r K st := ⟨yv, st.hp, h1, fun _ => rfl, h2⟩
theorem scQ_skip (b : Bool) (body : Ss) (y : Opd) (d : Nat) (r : Ss) (K : St → Prop) : scQ P (!b) b body y d r K st = wps P r K ⟨put (drops st.tm body.dsts) d (.d (.bool (!b))), st.hp⟩ := by
  refine propext ⟨?_, fun h => ⟨false, st.hp, (by cases b <;> simp), fun _ => rfl, by cases b <;> exact h⟩⟩
  rintro ⟨yv, hp, _, h2, h3⟩
  rw [h2 (by cases b <;> simp)] at h3
  cases b <;> exact h3
theorem scQ_ft (body : Ss) (y : Opd) (d : Nat) (r : Ss) (K : St → Prop) : scQ P false true body y d r K st = wps P r K ⟨put (drops st.tm body.dsts) d (.d (.bool false)), st.hp⟩ := scQ_skip true body y d r K
theorem scQ_tf (body : Ss) (y : Opd) (d : Nat) (r : Ss) (K : St → Prop) : scQ P true false body y d r K st = wps P r K ⟨put (drops st.tm body.dsts) d (.d (.bool true)), st.hp⟩ := scQ_skip false body y d r K
/-- the second operand is the result -/
def scR (P : Program) (y : Opd) (ds : List Nat) (d : Nat) (r : Ss) (K : St → Prop) (tm : List (Nat × Av)) (st' : St) : Prop := match val (get st'.tm) y with
  | some (.d (.bool yv)) => wps P r K ⟨put (drops tm ds) d (.d (.bool yv)), st'.hp⟩
  | _ => False
theorem scQ_run (b : Bool) (body : Ss) (y : Opd) (d : Nat) (r : Ss) (K : St → Prop) : scQ P b b body y d r K st = wps P body (scR P y body.dsts d r K st.tm) st := by
  refine propext ⟨?_, fun h => ?_⟩
  · rintro ⟨yv, hp, h1, _, h3⟩
    refine wps_imp ?_ body st (h1 rfl)
    rintro st' ⟨g1, rfl⟩
    unfold scR
    rw [g1]
    cases b <;> simpa using h3
  · obtain ⟨st', g1, g2⟩ := wps_ex body _ st h
    unfold scR at g1
    split at g1
    · rename_i yv hy
      refine ⟨yv, st'.hp, fun _ => wps_imp (by rintro s rfl; exact ⟨hy, rfl⟩) body st g2, fun h => absurd rfl h, ?_⟩
      cases b <;> simpa using g1
    · exact g1.elim
theorem scQ_tt (body : Ss) (y : Opd) (d : Nat) (r : Ss) (K : St → Prop) : scQ P true true body y d r K st = wps P body (scR P y body.dsts d r K st.tm) st := scQ_run true body y d r K
theorem scQ_ff (body : Ss) (y : Opd) (d : Nat) (r : Ss) (K : St → Prop) : scQ P false false body y d r K st = wps P body (scR P y body.dsts d r K st.tm) st := scQ_run false body y d r K
@[congr] theorem scQ_congr {x x' b : Bool} {body : Ss} {y : Opd} {d : Nat} {r : Ss} {K : St → Prop} {st' : St} (hx : x = x') (h : st = st') : scQ P x b body y d r K st = scQ P x' b body y d r K st' := by rw [hx, h]
@[congr] theorem wpsL_congr {s : Ss} {K : St → Log → Prop} {st' : St} {lg lg' : Log} (h : st = st') (h2 : lg = lg') : wpsL P s K st lg = wpsL P s K st' lg' := by rw [h, h2]
theorem wpsL_nil (K : St → Log → Prop) (lg : Log) : wpsL P .nil K st lg = K st lg := rfl
theorem wpsL_op (d : Option Nat) (o : IOp) (r : Ss) (K : St → Log → Prop) (lg : Log) : wpsL P (.op d o r) K st lg = match step (get st.tm) (get st.hp) (d.getD 0) o with
    | some x => x.c ∧ wpsL P r K (st.app d x.v x.ups) (lg ++ [(rd (get st.tm) (d.getD 0) o, x.ups.map (·.1))])
    | none => False := rfl
theorem wpsL_sc (c : Nat) (b : Bool) (body : Ss) (y : Opd) (d : Nat) (r : Ss) (K : St → Log → Prop) (lg : Log) : wpsL P (.sc c b body y d r) K st lg = match get st.tm c with
    | some (.d (.bool x)) => ∃ (yv : Bool) (hp : List (Nat × Obj)) (l : Log), l.length = body.len ∧ (x = b → wpsL P body (fun st' l' => val (get st'.tm) y = some (.d (.bool yv)) ∧ st'.hp = hp ∧ l' = l) st []) ∧
        (x ≠ b → hp = st.hp) ∧ wpsL P r K ⟨put (drops st.tm body.dsts) d (.d (.bool (if b then x && yv else x || yv))), hp⟩ (lg ++ (l ++ [([], [])]))
    | _ => False := rfl
theorem wpsL_call {d : Option Nat} {f : Cal} {args : List Opd} {r : Ss} {K : St → Log → Prop} {lg : Log} {f' : Cee} {vs : List Av} {T : List (Nat × Option Obj)} {v : Av} {ups : List (Nat × Obj)} (ht : target (get st.tm) f args = some (f', vs))
    (hc : CallOK P f' vs T v ups) (hT : tgets (get st.hp) T) (hr : wpsL P r K (st.app d v ups) (lg ++ [(T.map (·.1), ups.map (·.1))])) : wpsL P (.call d f args r) K st lg := by
  simp only [wpsL, ht]
  exact ⟨T, v, ups, puts st.hp ups, hc, hT, fun i => by rw [get_puts], hr⟩
theorem wpsL_pcall {d : Option Nat} {f : Cal} {args : List Opd} {r : Ss} {K : St → Log → Prop} {lg : Log} {f' : Cee} {vs : List Av} {v : Av} (ht : target (get st.tm) f args = some (f', vs))
    (hc : CallOK P f' (vs.map Av.canon) [] v []) (hr : wpsL P r K (st.app d v []) (lg ++ [([], [])])) : wpsL P (.call d f args r) K st lg := wpsL_call ht hc.canon trivial hr
/-- a call: to whom, and its contract -/
theorem wps_call {d : Option Nat} {f : Cal} {args : List Opd} {r : Ss} {K : St → Prop} {f' : Cee} {vs : List Av} {T : List (Nat × Option Obj)} {v : Av} {ups : List (Nat × Obj)} (ht : target (get st.tm) f args = some (f', vs))
    (hc : CallOK P f' vs T v ups) (hT : tgets (get st.hp) T) (hr : wps P r K (st.app d v ups)) : wps P (.call d f args r) K st := by
  simp only [wps, ht]
  exact ⟨T, v, ups, puts st.hp ups, hc, hT, fun i => by rw [get_puts], hr⟩
/-- a call of a pure function -/
theorem wps_pcall {d : Option Nat} {f : Cal} {args : List Opd} {r : Ss} {K : St → Prop} {f' : Cee} {vs : List Av} {v : Av} (ht : target (get st.tm) f args = some (f', vs))
    (hc : CallOK P f' (vs.map Av.canon) [] v []) (hr : wps P r K (st.app d v [])) : wps P (.call d f args r) K st := wps_call ht hc.canon trivial hr
theorem wpc_skip : wpc P D .skip Q st = Q .normal st := rfl
theorem wpc_reg (s : Ss) : wpc P D (.reg s) Q st = wps P s (Q .normal) st := rfl
theorem wpc_regd (un : List (Nat × Nat)) (s : Ss) : wpc P D (.regd un s) Q st = wpsL P s (fun st lg => apartAll lg un = true ∧ Q .normal st) st [] := rfl
/-- continuations by name: nothing stands twice -/
def dnK (ts : List Nat) (Q : Exit → St → Prop) (e : Exit) (s : St) : Prop := match e with
  | .normal => Q .normal ⟨drops s.tm ts, s.hp⟩
  | e => Q e s
def seqK (P : Program) (D : Nat → Prop) (b : Ic) (Q : Exit → St → Prop) (e : Exit) (s : St) : Prop := match e with
  | .normal => wpc P D b Q s
  | e => Q e s
def blockK (id : Nat) (Q : Exit → St → Prop) (e : Exit) (s : St) : Prop := match e with
  | .exit id' => if id' = id then Q .normal s else Q (.exit id') s
  | e => Q e s
def loopK (D : Nat → Prop) (I : Nat → St → Prop) (n : Nat) (Q : Exit → St → Prop) (e : Exit) (s' : St) : Prop := match e with
  | .normal => ∃ m s'', m < n ∧ Wk D s' s'' ∧ I m s''
  | e => Q e s'
theorem dnK_normal (ts : List Nat) : dnK ts Q .normal st = Q .normal ⟨drops st.tm ts, st.hp⟩ := rfl
theorem dnK_ret (ts : List Nat) : dnK ts Q .ret st = Q .ret st := rfl
theorem dnK_exit (ts : List Nat) (id : Nat) : dnK ts Q (.exit id) st = Q (.exit id) st := rfl
theorem seqK_normal (b : Ic) : seqK P D b Q .normal st = wpc P D b Q st := rfl
theorem seqK_ret (b : Ic) : seqK P D b Q .ret st = Q .ret st := rfl
theorem seqK_exit (b : Ic) (id : Nat) : seqK P D b Q (.exit id) st = Q (.exit id) st := rfl
theorem blockK_normal (id : Nat) : blockK id Q .normal st = Q .normal st := rfl
theorem blockK_ret (id : Nat) : blockK id Q .ret st = Q .ret st := rfl
theorem blockK_exit (id id' : Nat) : blockK id Q (.exit id') st = if id' = id then Q .normal st else Q (.exit id') st := rfl
theorem loopK_normal (I : Nat → St → Prop) (n : Nat) : loopK D I n Q .normal st = ∃ m s'', m < n ∧ Wk D st s'' ∧ I m s'' := rfl
theorem loopK_ret (I : Nat → St → Prop) (n : Nat) : loopK D I n Q .ret st = Q .ret st := rfl
theorem loopK_exit (I : Nat → St → Prop) (n id : Nat) : loopK D I n Q (.exit id) st = Q (.exit id) st := rfl
theorem wpc_dn (a : Ic) (ts : List Nat) : wpc P D (.dn a ts) Q st = wpc P D a (dnK ts Q) st := rfl
theorem wpc_seq (a b : Ic) : wpc P D (.seq a b) Q st = wpc P D a (seqK P D b Q) st := rfl
/-- a choice -/
def iteK (x : Bool) (A B : Prop) : Prop := (x = true → A) ∧ (x = false → B)
theorem iteK_true (A B : Prop) : iteK true A B = A := propext ⟨fun h => h.1 rfl, fun h => ⟨fun _ => h, fun e => by cases e⟩⟩
theorem iteK_false (A B : Prop) : iteK false A B = B := propext ⟨fun h => h.2 rfl, fun h => ⟨fun e => (by cases e), fun _ => h⟩⟩
@[congr] theorem iteK_congr {x y : Bool} {A B : Prop} (h : x = y) : iteK x A B = iteK y A B := by rw [h]
theorem wpc_ite (c : Opd) (a b : Ic) : wpc P D (.ite c a b) Q st = match val (get st.tm) c with
    | some (.d (.bool x)) => iteK x (wpc P D a Q st) (wpc P D b Q st)
    | _ => False := rfl
theorem wpc_block (id : Nat) (b : Ic) : wpc P D (.block id b) Q st = wpc P D b (blockK id Q) st := rfl
def scpK (Q : Exit → St → Prop) (e : Exit) (s : St) : Prop := match e with
  | .goto _ => False
  | e => Q e s
theorem scpK_normal : scpK Q .normal st = Q .normal st := rfl
theorem scpK_ret : scpK Q .ret st = Q .ret st := rfl
theorem scpK_exit (id : Nat) : scpK Q (.exit id) st = Q (.exit id) st := rfl
theorem wpc_scp (b : Ic) : wpc P D (.scp b) Q st = wpc P D b (scpK Q) st := rfl
theorem wpc_lab : wpc P D .lab Q st = Q .normal st := rfl
attribute [go_sem] scpK_normal scpK_ret scpK_exit wpc_scp wpc_lab
theorem wpc_exit (id : Nat) : wpc P D (.exit id) Q st = Q (.exit id) st := rfl
theorem wpc_ret : wpc P D .ret Q st = Q .ret st := rfl
theorem wpc_loop {b : Ic} (I : Nat → St → Prop) (h0 : ∃ n s, Wk D st s ∧ I n s) (h : ∀ n s, I n s → wpc P D b (loopK D I n Q) s) : wpc P D (.loop b) Q st := ⟨I, h0, h⟩
end
theorem wrap64 {n : Int} (h1 : -9223372036854775808 ≤ n) (h2 : n ≤ 9223372036854775807) : IntKind.i64.wrap n = n := by
  simp only [IntKind.wrap, IntKind.signed, IntKind.bits]
  simp
  omega
theorem wrap64s (k : Nat) (h : k < 9223372036854775807) : IntKind.i64.wrap ((k : Int) + 1) = ((k + 1 : Nat) : Int) := by
  rw [wrap64 (by omega) (by omega)]
  omega
attribute [go_sem] iteK_true iteK_false dnK_normal dnK_ret dnK_exit seqK_normal seqK_ret seqK_exit blockK_normal blockK_ret blockK_exit loopK_normal loopK_ret loopK_exit wpc_skip wpc_reg wpc_regd wpc_dn wpc_seq wpc_ite wpc_block wpc_exit wpc_ret Ss.dsts Option.toList_some Option.toList_none beq_self_eq_true Av.ren Obj.ren renL renT Av.canon targetV roundEnd putArgs mine part1 parts1 D0 scQ_ft scQ_tf scQ_tt scQ_ff scR retV wps_nil wps_op wps_sc wpsL_nil wpsL_op wpsL_sc rd idsOf ids idsC Ss.len datum1 datum datums datumAll enum step get val Av.cells St.app put puts binOpD binStr binInt drops mkAgg allD target vals tgets splice isNil isNilI cellsEq cellEq listOf curr putEl ofBound Dat.cells outs finF finK finD fin1 fins sameT hputs upd Ends EndsK trRow cellAt trCell trCells setMany xsOf ownOf ownAll blsT appT stoT anyTr setEl setAt nodeAt Dat.canon canonL
  List.map_cons List.map_nil Option.map_some Option.map_none Option.getD_some Option.getD_none if_true if_false true_and and_true List.getElem?_cons_zero List.getElem?_cons_succ List.contains_cons List.contains_nil
  Bool.or_false Bool.false_or Bool.false_eq_true Bool.or_true Bool.true_or Bool.or_self List.length_cons List.length_nil List.take_succ_cons List.take_zero List.drop_succ_cons List.drop_zero List.flatMap_cons List.flatMap_nil List.nil_append List.append_nil List.cons_append
  false_implies true_implies implies_true Option.isSome_none Nat.zero_add Nat.add_zero and_self or_true true_or or_false false_or List.getD_cons_zero List.getD_cons_succ
end Av

namespace Av
open Go
variable [Glb] [Rls]

section
variable {β : Blocks} {A : Nat → Prop} {w : World} {H G : Heap} {D : Nat → Prop}

theorem VRep.less (hle : ∀ i o, G i = some o → H i = some o) {c : Av} {u : Value} (h : VRep β A w H c u) (hid : idsIn G c) : VRep β A w G c u := by
  induction h with
  | d x u h => exact .d x u h
  | ref i off b p u hu h0 h1 h2 => exact .ref i off b p u hu hid (fun cs hcs => h1 cs (hle i _ hcs)) fun ds hds => h2 ds (hle i _ hds)
  | ms i ver u hu h0 h1 h2 => exact .ms i ver u hu hid (fun v' sz xs hr => h1 v' sz xs (hle i _ hr)) fun sz xs hr => h2 sz xs (hle i _ hr)
  | sub i ver off len u hu h0 h1 h2 => exact .sub i ver off len u hu hid (fun v' sz xs hr => h1 v' sz xs (hle i _ hr)) fun sz xs hr => h2 sz xs (hle i _ hr)
  | el i ver k off b p u hu h0 h1 => exact .el i ver k off b p u hu hid (fun v' sz xs hr => h1 v' sz xs (hle i _ hr))
  | agg cs arr hl h1 hv ih => exact .agg cs arr hl h1 fun i c v hc hv' => ih i c v hc hv' (idsInL_get (by simpa only [idsIn] using hid) i c hc)
  | tup cs arr hl hv ih => exact .tup cs arr hl fun i c v hc hv' => ih i c v hc hv' (idsInL_get (by simpa only [idsIn] using hid) i c hc)
  | clo f fs cs a1 a2 h1 h2 hf hv ihf ihv =>
    simp only [idsIn] at hid
    exact .clo f fs cs a1 a2 h1 h2 (fun i c v hc hv' => ihf i c v hc hv' (idsInL_get hid.1 i c hc)) fun i c v hc hv' => ihv i c v hc hv' (idsInL_get hid.2 i c hc)
  | mp i u hu h0 h1 h2 h3 => exact .mp i u hu hid (fun es hr => h1 es (hle i _ hr)) (fun l hr => h2 l (hle i _ hr)) fun s p hr => h3 s p (hle i _ hr)
  | tr i h u hu h0 hk h1 => exact .tr i h u hu hid hk fun v' s' sz xs hr => h1 v' s' sz xs (hle i _ hr)
  | any u => exact .any u
  | und => exact .und

def subL {α : Type} : List (Nat × α) → List (Nat × α) → Prop
  | [], _ => True
  | e :: r, l => get l e.1 = some e.2 ∧ subL r l

theorem subL_ok {α : Type} {l : List (Nat × α)} : ∀ {l' : List (Nat × α)}, subL l' l → ∀ t v, get l' t = some v → get l t = some v
  | [], _, t, v, h => by cases h
  | (k, x) :: r, hs, t, v, h => by
    simp only [get] at h
    split at h
    · rename_i e; subst e; cases h; exact hs.1
    · exact subL_ok hs.2 t v h

/-- every value of a state speaks of objects of the state -/
def closedT (G : Heap) : List (Nat × Av) → Prop
  | [] => True
  | e :: r => idsIn G e.2 ∧ closedT G r
def closedH (G : Heap) : List (Nat × Obj) → Prop
  | [] => True
  | e :: r => objIn G e.2 ∧ closedH G r
/-- some objects are there still -/
def bigIn (D : Nat → Prop) : List (Nat × Obj) → List (Nat × Obj) → Prop
  | [], _ => True
  | e :: r, l => (D e.1 → (get l e.1).isSome = true) ∧ bigIn D r l

theorem closedT_ok : ∀ {l : List (Nat × Av)}, closedT G l → ∀ t v, get l t = some v → idsIn G v
  | [], _, t, v, h => by cases h
  | (k, x) :: r, hs, t, v, h => by
    simp only [get] at h
    split at h
    · cases h; exact hs.1
    · exact closedT_ok hs.2 t v h

theorem closedH_ok : ∀ {l : List (Nat × Obj)}, closedH G l → ∀ i o, get l i = some o → objIn G o
  | [], _, t, v, h => by cases h
  | (k, x) :: r, hs, t, v, h => by
    simp only [get] at h
    split at h
    · cases h; exact hs.1
    · exact closedH_ok hs.2 t v h
theorem closed_of {l : List (Nat × Obj)} (h : closedH (get l) l) : closed (get l) := fun i o hi => closedH_ok h i o hi
theorem closed_puts {l ups : List (Nat × Obj)} (h : closedH (get (puts l ups)) (puts l ups)) : closed (hputs (get l) ups) := by rw [← get_puts]; exact closed_of h

theorem bigIn_ok {l' : List (Nat × Obj)} : ∀ {l : List (Nat × Obj)}, bigIn D l l' → ∀ i, D i → (get l i).isSome = true → (get l' i).isSome = true
  | [], _, i, _, h => by cases h
  | (k, x) :: r, hs, i, hi, h => by
    simp only [get] at h
    split at h
    · rename_i e; subst e; exact hs.1 hi
    · exact bigIn_ok hs.2 i hi h

theorem Wk.refl (st : St) : Wk D st st := fun β A _ _ hc ht => ⟨β, A, hc, ht, fun i o _ h1 h2 h3 => ⟨i, o, h1, h2, h3⟩, fun _ h => .inl h, fun _ _ _ h => h⟩

theorem Wk.trans {s1 s2 s3 : St} (h1 : Wk D s1 s2) (h2 : Wk D s2 s3) : Wk D s1 s3 := by
  intro β A w a hc ht
  obtain ⟨β1, A1, c1, t1, m1, d1, v1⟩ := h1 β A w a hc ht
  obtain ⟨β2, A2, c2, t2, m2, d2, v2⟩ := h2 β1 A1 w a c1 t1
  refine ⟨β2, A2, c2, t2, ?_, ?_, fun c u hb h => v2 c u hb (v1 c u hb h)⟩
  · intro i o b g1 g2 g3
    obtain ⟨i', o', q1, q2, q3⟩ := m2 i o b g1 g2 g3
    exact m1 i' o' b q1 q2 q3
  · intro b hb
    rcases d2 b hb with h | ⟨i, o, g1, g2, g3⟩
    · exact d1 b h
    · obtain ⟨i', o', q1, q2, q3⟩ := m1 i o b g1 g2 g3
      exact .inr ⟨i', o', q1, q2, q3⟩

/-- fewer temporaries, fewer objects -/
theorem Wk.less {st st' : St} (h : subL st'.tm st.tm ∧ subL st'.hp st.hp ∧ closedT (get st'.hp) st'.tm ∧ closedH (get st'.hp) st'.hp ∧ bigIn D st.hp st'.hp) : Wk D st st' := by
  obtain ⟨h1, h2, h3, h4, h5⟩ := h
  intro β A w a hc ht
  have hle := subL_ok h2
  refine ⟨β, A, ⟨?_, fun i j o o' b q1 l1 q2 l2 => hc.inj i j o o' b (hle i o q1) l1 (hle j o' q2) l2, fun i o b q1 => hc.sep i o b (hle i o q1), hc.old, hc.glob⟩, ?_, fun i o b q1 q2 q3 => ⟨i, o, hle i o q1, q2, q3⟩, fun _ h => .inl h, ?_⟩
  · intro i o hi
    have := hc.objs i o (hle i o hi)
    cases o with
    | box cs =>
      obtain ⟨b, C, T, e1, e2, e3, e4, e5⟩ := this
      exact ⟨b, C, T, e1, e2, e3, e4, fun j c v hj hv => (e5 j c v hj hv).less hle (idsInL_get (closedH_ok h4 i _ hi : idsInL _ cs) j c hj)⟩
    | row ver sz xs => exact this
    | mapo es => exact this
    | fbox ds => trivial
    | frz ver sz xs => trivial
    | gone => trivial
    | sit s p => exact this
    | tre a b c d => exact this
    | lp l =>
      obtain ⟨b, r, e1, e2, e3, e4, e6, e7, e8, e9, e10⟩ := this
      refine ⟨b, r, e1, e2, e3, e4, e6, e7, e8, e9, fun t v htv => ?_⟩
      obtain ⟨u, q1, q2⟩ := e10 t v htv
      exact ⟨u, q1, q2.less hle (idsInT_get (closedH_ok h4 i _ hi : idsInT _ l.tm) t v htv)⟩
  · intro t v htv
    obtain ⟨u, q1, q2⟩ := ht t v (subL_ok h1 t v htv)
    exact ⟨u, q1, q2.less hle (closedT_ok h3 t v htv)⟩
  · intro c u hb hv
    refine hv.less hle ?_
    cases hv with
    | d _ _ _ => trivial
    | ref i _ _ _ _ _ h0 _ _ => exact bigIn_ok h5 i hb h0
    | ms i _ _ _ h0 _ _ => exact bigIn_ok h5 i hb h0
    | sub i _ _ _ _ _ h0 _ _ => exact bigIn_ok h5 i hb h0
    | el i _ _ _ _ _ _ _ h0 _ => exact bigIn_ok h5 i hb h0
    | mp i _ _ h0 _ _ _ => exact bigIn_ok h5 i hb h0
    | tr i _ _ _ h0 _ _ => exact bigIn_ok h5 i hb h0
    | _ => exact hb.elim

theorem Wk.of_stp {st st' : St} (h : ∀ β A w a, Core β A w (get st.hp) → TRep β A w (get st.hp) (get st.tm) a → ∃ β' A', Stp β A w (get st.hp) β' A' w (get st'.hp) ∧ TRep β' A' w (get st'.hp) (get st'.tm) a) : Wk D st st' := by
  intro β A w a hc ht
  obtain ⟨β', A', hst, ht'⟩ := h β A w a hc ht
  refine ⟨β', A', hst.core, ht', ?_, ?_, fun c u _ hv => hst.vals c u hv⟩
  · intro i o b h1 h2 h3
    rcases hst.mine i o b h1 h2 h3 with h | h
    · have := hst.core.lt h1 h2 h3; omega
    · exact h
  · intro b hb
    rcases hst.data b hb with h | h | h
    · exact .inl h
    · have := hst.core.old b hb; omega
    · exact .inr h

theorem Stp.rowNil (hc : Core β A w H) {k sz : Nat} (hk : H k = none) (hsz : 0 < sz) : Stp β A w H (upd β k (none : Option Nat)) A w (upd H k (some (.row 0 sz []))) :=
  Stp.one hc k (.row 0 sz []) none rfl rfl rfl (Nat.le_refl _) (fun _ _ _ => rfl) (fun _ h => h) (fun _ h => .inl h) (fun b h => hc.old b h) (by simp) (fun c u hcase hvr => old_vals (.inl hk) c u hcase hvr)
    (fun _ => ⟨hsz, by simp, by simp, .inl ⟨upd_same _ _ _, rfl⟩⟩)

theorem VRep.rowNil {k sz : Nat} {u : Value} (hr : Rep A w (.nil sz) u) : VRep (upd β k (none : Option Nat)) A w (upd H k (some (.row 0 sz []))) (.ms k 0) u := by
  cases hr with
  | nil _ ad =>
    refine .ms _ _ _ rfl (by simp [upd]) ?_ (by simp [upd])
    intro v3 sz3 xs3 h3
    simp only [upd, if_true, Option.some.injEq, Obj.row.injEq] at h3
    obtain ⟨rfl, rfl, rfl⟩ := h3
    exact ⟨Nat.le_refl _, fun _ => .inl ⟨upd_same _ _ _, rfl, ad, rfl⟩⟩

/-- a nil slice in a temporary becomes a growing one -/
theorem Wk.nilT {st : St} (t k sz : Nat) (ht : get st.tm t = some (.d (.nil sz))) (hk : get st.hp k = none) (hsz : 0 < sz) : Wk D st ⟨put st.tm t (.ms k 0), put st.hp k (.row 0 sz [])⟩ := by
  refine Wk.of_stp ?_
  intro β A w a hc htr
  have hh : get (put st.hp k (.row 0 sz [])) = upd (get st.hp) k (some (.row 0 sz [])) := funext fun j => by rw [get_put]; rfl
  rw [hh]
  have hst := Stp.rowNil (β := β) hc hk hsz
  refine ⟨_, A, hst, ?_⟩
  intro t' v hv
  rw [get_put] at hv
  split at hv
  · rename_i e
    subst e
    cases hv
    obtain ⟨u, q1, q2⟩ := htr t' _ ht
    exact ⟨u, q1, VRep.rowNil q2.of_d⟩
  · obtain ⟨u, q1, q2⟩ := htr t' v hv
    exact ⟨u, q1, hst.vals _ _ q2⟩

/-- a nil slice in a box becomes a growing one -/
theorem Wk.nilB {st : St} (b j k sz : Nat) (cs : List Av) (hb : get st.hp b = some (.box cs)) (hj : cs[j]? = some (.d (.nil sz))) (hk : get st.hp k = none) (hsz : 0 < sz) :
    Wk D st ⟨st.tm, put (put st.hp k (.row 0 sz [])) b (.box (cs.set j (.ms k 0)))⟩ := by
  refine Wk.of_stp ?_
  intro β A w a hc htr
  have hne : b ≠ k := fun e => by subst e; rw [hk] at hb; cases hb
  have hst := Stp.rowNil (β := β) hc hk hsz
  have hb1 : upd (get st.hp) k (some (.row 0 sz [])) b = some (.box cs) := by rw [upd_ne _ _ hne]; exact hb
  obtain ⟨bb, C, T, e1, e2, e3, e4, e5⟩ := hst.core.objs b _ hb1
  have hset : w.setRow bb C = w := setRow_same e2
  have hst2 := Stp.boxSet (cs' := cs.set j (.ms k 0)) (C' := C) hst.core hb1 e1 e2 (by simpa using e3) e4 (fun hall i c v hc' hv' => by
    rw [List.getElem?_set] at hc'
    split at hc'
    · rename_i e
      subst e
      split at hc'
      · cases hc'
        obtain ⟨bb0, C0, T0, q1, q2, q3, q4, q5⟩ := hc.objs b _ hb
        have hbb : bb0 = bb := by
          rw [upd_ne _ _ hne] at e1
          rw [q1] at e1
          exact Option.some.inj (BK.mk.inj e1).1
        subst hbb
        rw [e2] at q2
        cases q2
        have hr := (q5 j _ v hj hv').of_d
        exact hall _ _ (VRep.rowNil hr)
      · cases hc'
    · exact hall _ _ (e5 i c v hc' hv'))
  rw [hset] at hst2
  have hh : get (put (put st.hp k (.row 0 sz [])) b (.box (cs.set j (.ms k 0)))) = upd (upd (get st.hp) k (some (.row 0 sz []))) b (some (.box (cs.set j (.ms k 0)))) := funext fun i => by
    rw [get_put, get_put]
    rfl
  rw [hh]
  refine ⟨_, A, hst.trans hst2, ?_⟩
  intro t v hv
  obtain ⟨u, q1, q2⟩ := htr t v hv
  exact ⟨u, q1, (hst.trans hst2).vals _ _ q2⟩
end
attribute [go_sem] subL closedT closedH bigIn idsIn idsInL idsInT objIn Option.isSome_some
end Av
