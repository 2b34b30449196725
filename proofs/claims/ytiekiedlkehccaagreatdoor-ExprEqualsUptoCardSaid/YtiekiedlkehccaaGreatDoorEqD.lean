/- Part D of a proof. -/
import Derived.Test.YtiekiedlkehccaaGreatDoorEqC
import Derived.Lib.DecodeN
import Derived.Test.YtiekiedlkehccaaGreatDoorProg
import Derived.Lib.Bytealg
set_option linter.unusedVariables false
set_option linter.unusedSimpArgs false
set_option linter.unusedSectionVars false
set_option maxRecDepth 10000
namespace Av
open Go
variable [Glb] [Rls]

/-! ### what a value speaks of -/
mutual
def idsA : Av → List Nat
  | .ref i _ | .ms i _ | .sub i _ _ _ | .el i _ _ _ | .mp i | .tr i _ => [i]
  | .agg cs => idsAL cs
  | .tup cs => idsAL cs
  | .clo _ a b => idsAL a ++ idsAL b
  | _ => []
def idsAL : List Av → List Nat
  | [] => []
  | c :: r => idsA c ++ idsAL r
end
def idsAT : List (Nat × Av) → List Nat
  | [] => []
  | e :: r => idsA e.2 ++ idsAT r
def idsO : Obj → List Nat
  | .box cs => idsAL cs
  | .lp l => idsAT l.tm
  | _ => []
mutual
def inB (ks : List Nat) : Av → Bool
  | .ref i _ | .ms i _ | .sub i _ _ _ | .el i _ _ _ | .mp i | .tr i _ => ks.contains i
  | .agg cs => inBL ks cs
  | .tup cs => inBL ks cs
  | .clo _ a b => inBL ks a && inBL ks b
  | _ => true
def inBL (ks : List Nat) : List Av → Bool
  | [] => true
  | c :: r => inB ks c && inBL ks r
end
def inBT (ks : List Nat) : List (Nat × Av) → Bool
  | [] => true
  | e :: r => inB ks e.2 && inBT ks r
def inBO (ks : List Nat) : Obj → Bool
  | .box cs => inBL ks cs
  | .lp l => inBT ks l.tm
  | _ => true

theorem inB_ok {G : Heap} {ks : List Nat} (hG : ∀ i, ks.contains i = true → (G i).isSome = true) (c : Av) : inB ks c = true → idsIn G c :=
  Av.rec (motive_1 := fun c => inB ks c = true → idsIn G c) (motive_2 := fun cs => inBL ks cs = true → idsInL G cs)
    (fun _ _ => trivial) (fun i _ h => hG i h) (fun i _ h => hG i h) (fun i _ _ _ h => hG i h) (fun i _ _ _ h => hG i h) (fun cs ih h => ih h) (fun cs ih h => ih h)
    (fun f a b iha ihb h => by simp only [inB, Bool.and_eq_true] at h; exact ⟨iha h.1, ihb h.2⟩) (fun i h => hG i h) (fun i _ h => hG i h) (fun _ => trivial) (fun _ => trivial) (fun _ => trivial)
    (fun c r ihc ihr h => by simp only [inBL, Bool.and_eq_true] at h; exact ⟨ihc h.1, ihr h.2⟩) c
theorem inBL_ok {G : Heap} {ks : List Nat} (hG : ∀ i, ks.contains i = true → (G i).isSome = true) : ∀ cs : List Av, inBL ks cs = true → idsInL G cs
  | [], _ => trivial
  | c :: r, h => by simp only [inBL, Bool.and_eq_true] at h; exact ⟨inB_ok hG c h.1, inBL_ok hG r h.2⟩
theorem inBT_ok {G : Heap} {ks : List Nat} (hG : ∀ i, ks.contains i = true → (G i).isSome = true) : ∀ cs : List (Nat × Av), inBT ks cs = true → idsInT G cs
  | [], _ => trivial
  | c :: r, h => by simp only [inBT, Bool.and_eq_true] at h; exact ⟨inB_ok hG c.2 h.1, inBT_ok hG r h.2⟩
theorem inBO_ok {G : Heap} {ks : List Nat} (hG : ∀ i, ks.contains i = true → (G i).isSome = true) (o : Obj) (h : inBO ks o = true) : objIn G o := by
  cases o with
  | box cs => exact inBL_ok hG cs h
  | lp l => exact inBT_ok hG l.tm h
  | _ => trivial

theorem get_keeps {α : Type} (l : List (Nat × α)) (ks : List Nat) (j : Nat) : get (keeps l ks) j = if ks.contains j then get l j else none := by
  induction l with
  | nil => simp [keeps, get]
  | cons e r ih =>
    obtain ⟨k, u⟩ := e
    simp only [keeps]
    split
    · rename_i h
      simp only [get, ih]
      split
      · subst_vars; simp_all
      · rfl
    · rename_i h
      rw [ih]
      simp only [get]
      split
      · split
        · subst_vars; simp_all
        · rfl
      · rfl

def keys {α : Type} (l : List (Nat × α)) : List Nat := l.map (·.1)
theorem get_keys {α : Type} {l : List (Nat × α)} {i : Nat} : (keys l).contains i = true ↔ (get l i).isSome = true := by
  induction l with
  | nil => simp [keys, get]
  | cons e r ih =>
    obtain ⟨k, u⟩ := e
    simp only [keys, List.map_cons, List.contains_cons, get, Bool.or_eq_true, beq_iff_eq] at ih ⊢
    by_cases h : k = i
    · subst h; simp
    · rw [if_neg h, ← ih]
      simp [Ne.symm h]

/-- objects that can be reached -/
def reach (hp : List (Nat × Obj)) : Nat → List Nat → List Nat → List Nat
  | 0, _, seen => seen
  | _ + 1, [], seen => seen
  | n + 1, i :: todo, seen => if seen.contains i then reach hp n todo seen else match get hp i with
    | some o => reach hp n (idsO o ++ todo) (i :: seen)
    | none => reach hp n todo seen

def fuelR : Nat := 4000

/-- may the objects but these be forgotten? -/
def keepOK (Db : Nat → Bool) (tm : List (Nat × Av)) (hp : List (Nat × Obj)) : List (Nat × Obj) → Bool
  | hp' => inBT (keys hp') tm && (hp'.all fun e => inBO (keys hp') e.2) && (hp.all fun e => !Db e.1 || (keys hp').contains e.1)

theorem keepOK_wk {D : Nat → Prop} {Db : Nat → Bool} (hD : ∀ i, D i → Db i = true) {tm : List (Nat × Av)} {hp : List (Nat × Obj)} {ks : List Nat} {tm' : List (Nat × Av)} (htm : ∀ t v, get tm' t = some v → get tm t = some v) (h : keepOK Db tm' hp (keeps hp ks) = true) :
    Wk D ⟨tm, hp⟩ ⟨tm', keeps hp ks⟩ := by
  simp only [keepOK, Bool.and_eq_true, List.all_eq_true, Bool.or_eq_true, Bool.not_eq_true'] at h
  obtain ⟨⟨h1, h2⟩, h3⟩ := h
  have hG : ∀ i, (keys (keeps hp ks)).contains i = true → (get (keeps hp ks) i).isSome = true := fun i hi => get_keys.1 hi
  have hle : ∀ i o, get (keeps hp ks) i = some o → get hp i = some o := by
    intro i o hi
    rw [get_keeps] at hi
    split at hi
    · exact hi
    · cases hi
  have hobj : ∀ i o, get (keeps hp ks) i = some o → objIn (get (keeps hp ks)) o := fun i o hi => inBO_ok hG o (h2 (i, o) (get_mem _ i o hi))
  intro β A w a hc ht
  refine ⟨β, A, ⟨?_, fun i j o o' b q1 l1 q2 l2 => hc.inj i j o o' b (hle i o q1) l1 (hle j o' q2) l2, fun i o b q1 => hc.sep i o b (hle i o q1), hc.old, hc.glob⟩, ?_, fun i o b q1 q2 q3 => ⟨i, o, hle i o q1, q2, q3⟩, fun _ h => .inl h, ?_⟩
  · intro i o hi
    have := hc.objs i o (hle i o hi)
    have hin := hobj i o hi
    cases o with
    | box cs =>
      obtain ⟨b, C, T, e1, e2, e3, e4, e5⟩ := this
      exact ⟨b, C, T, e1, e2, e3, e4, fun j c v hj hv => (e5 j c v hj hv).less hle (idsInL_get (hin : idsInL _ cs) j c hj)⟩
    | row ver sz xs => exact this
    | mapo es => exact this
    | fbox ds => trivial
    | frz ver sz xs => trivial
    | gone => trivial
    | sit s p => exact this
    | tre a b c d => exact this
    | lp l =>
      obtain ⟨b, r, e1, e2, e3, e4, e6, e7, e8, e9, e10⟩ := this
      refine ⟨b, r, e1, e2, e3, e4, e6, e7, e8, e9, fun t v htv => ?_⟩
      obtain ⟨u, q1, q2⟩ := e10 t v htv
      exact ⟨u, q1, q2.less hle (idsInT_get (hin : idsInT _ l.tm) t v htv)⟩
  · intro t v htv
    obtain ⟨u, q1, q2⟩ := ht t v (htm t v htv)
    exact ⟨u, q1, q2.less hle (idsInT_get (inBT_ok hG _ h1) t v htv)⟩
  · intro c u hb hv
    have hin : ∀ i, D i → (get hp i).isSome = true → (get (keeps hp ks) i).isSome = true := by
      intro i hi hs
      obtain ⟨o, ho⟩ := Option.isSome_iff_exists.1 hs
      rcases h3 (i, o) (get_mem _ i o ho) with h | h
      · rw [hD i hi] at h; cases h
      · exact hG i h
    refine hv.less hle ?_
    cases hv with
    | d _ _ _ => trivial
    | ref i _ _ _ _ _ h0 _ _ => exact hin i hb h0
    | ms i _ _ _ h0 _ _ => exact hin i hb h0
    | sub i _ _ _ _ _ h0 _ _ => exact hin i hb h0
    | el i _ _ _ _ _ _ _ h0 _ => exact hin i hb h0
    | mp i _ _ h0 _ _ _ => exact hin i hb h0
    | tr i _ _ _ h0 _ _ => exact hin i hb h0
    | _ => exact hb.elim

/-- at a loop's head: the temporaries that were there, the objects that can be reached -/
def gc (Db : Nat → Bool) (ts : List Nat) (st : St) : St :=
  let tm := keeps st.tm ts
  let hp := keeps st.hp (reach st.hp fuelR (idsAT tm ++ (keys st.hp).filter Db) [])
  if keepOK Db tm st.hp hp then ⟨tm, hp⟩ else st

theorem gc_ok {D : Nat → Prop} {Db : Nat → Bool} (hD : ∀ i, D i → Db i = true) (ts : List Nat) (st : St) : Wk D st (gc Db ts st) := by
  unfold gc
  dsimp only
  split
  · rename_i h
    refine keepOK_wk hD ?_ h
    intro t v htv
    rw [get_keeps] at htv
    split at htv
    · exact htv
    · cases htv
  · exact Wk.refl st

/-- a row's handles in temporaries as data -/
def frzV (i ver sz : Nat) (xs : List Dat) : Av → Av
  | .ms j v => if j = i ∧ v = ver then .d (.list sz xs) else .ms j v
  | .sub j v off len => if j = i ∧ v = ver then .d (.list sz ((xs.drop off).take len)) else .sub j v off len
  | c => c
def frzT (i ver sz : Nat) (xs : List Dat) : List (Nat × Av) → List (Nat × Av)
  | [] => []
  | (t, c) :: r => (t, frzV i ver sz xs c) :: frzT i ver sz xs r
/-- a row frozen -/
def frz1 (i : Nat) (st : St) : St := match get st.hp i with
  | some (.row ver sz xs) => ⟨frzT i ver sz xs st.tm, put st.hp i (.frz ver sz xs)⟩
  | _ => st

theorem get_frzT {i ver sz : Nat} {xs : List Dat} : ∀ (l : List (Nat × Av)) (t : Nat), get (frzT i ver sz xs l) t = (get l t).map (frzV i ver sz xs)
  | [], _ => rfl
  | (k, c) :: r, t => by simp only [frzT, get]; split; rfl; exact get_frzT r t

theorem frz1_ok {D : Nat → Prop} (i : Nat) (st : St) : Wk D st (frz1 i st) := by
  unfold frz1
  split
  · rename_i ver sz xs hrow
    refine Wk.of_stp ?_
    intro β A w a hc ht
    have hst := Stp.freeze hc hrow
    have hh : get (put st.hp i (.frz ver sz xs)) = upd (get st.hp) i (some (.frz ver sz xs)) := funext fun j => by rw [get_put]; rfl
    rw [hh]
    refine ⟨_, _, hst, ?_⟩
    intro t v htv
    simp only [get_frzT] at htv
    cases hg : get st.tm t with
    | none => simp [hg] at htv
    | some c =>
      simp only [hg, Option.map_some, Option.some.injEq] at htv
      subst htv
      obtain ⟨u, q1, q2⟩ := ht t c hg
      refine ⟨u, q1, ?_⟩
      have hv := hst.vals _ _ q2
      unfold frzV
      split
      · split
        · rename_i e
          obtain ⟨rfl, rfl⟩ := e
          cases hv with | ms _ _ _ hu h0 g1 g2 => exact .d _ _ (g2 _ _ (upd_same _ _ _))
        · exact hv
      · split
        · rename_i e
          obtain ⟨rfl, rfl⟩ := e
          cases hv with | sub _ _ _ _ _ hu h0 g1 g2 => exact .d _ _ (g2 _ _ (upd_same _ _ _))
        · exact hv
      · exact hv
  · exact Wk.refl st

/-! ### regions -/
/-- what carries out calls: whom, with what, in which heap; the result, the heap behind, the objects looked at, those written -/
abbrev CallF := Cee → List Av → List (Nat × Obj) → Option (Av × List (Nat × Obj) × List Nat × List Nat)

def CallSound (P : Program) (call : CallF) : Prop := ∀ c vs hp v hp' tk uk, call c vs hp = some (v, hp', tk, uk) →
  ∃ T ups, CallOK P c vs T v ups ∧ tgets (get hp) T ∧ (∀ i, get hp' i = hputs (get hp) ups i) ∧ T.map (·.1) = tk ∧ ups.map (·.1) = uk

def evS (call : CallF) : Ss → St → Log → Option (St × Log)
  | .nil, st, lg => some (st, lg)
  | .op d o r, st, lg => match chk (get st.tm) (get st.hp) o with
    | true => match step (get st.tm) (get st.hp) (d.getD 0) o with
      | some x => evS call r (st.app d x.v x.ups) (lg ++ [(rd (get st.tm) (d.getD 0) o, x.ups.map (·.1))])
      | none => none
    | false => none
  | .call d f args r, st, lg => match target (get st.tm) f args with
    | some (c, vs) => match call c vs st.hp with
      | some (v, hp, tk, uk) => evS call r (st.set d v hp) (lg ++ [(tk, uk)])
      | none => none
    | none => none
  | .sc c b body y d r, st, lg => match get st.tm c with
    | some (.d (.bool x)) => if x = b then match evS call body st [] with
        | some (st', l) => match val (get st'.tm) y with
          | some (.d (.bool yv)) => evS call r ⟨put (drops st.tm body.dsts) d (.d (.bool (if b then x && yv else x || yv))), st'.hp⟩ (lg ++ (l ++ [([], [])]))
          | _ => none
        | none => none
      else evS call r ⟨put (drops st.tm body.dsts) d (.d (.bool x)), st.hp⟩ (lg ++ (List.replicate body.len ([], []) ++ [([], [])]))
    | _ => none

theorem evS_len {call : CallF} : ∀ (s : Ss) (st : St) (lg : Log) (st' : St) (lg' : Log), evS call s st lg = some (st', lg') → ∃ l, lg' = lg ++ l ∧ l.length = s.len
  | .nil, st, lg, st', lg', h => by simp only [evS, Option.some.injEq, Prod.mk.injEq] at h; exact ⟨[], by simp [h.2], rfl⟩
  | .op d o r, st, lg, st', lg', h => by
    simp only [evS] at h
    split at h
    · split at h
      · obtain ⟨l, h1, h2⟩ := evS_len r _ _ _ _ h
        exact ⟨_ :: l, by rw [h1, List.append_assoc]; rfl, by simp [Ss.len, h2]⟩
      · cases h
    · cases h
  | .call d f args r, st, lg, st', lg', h => by
    simp only [evS] at h
    split at h
    · split at h
      · obtain ⟨l, h1, h2⟩ := evS_len r _ _ _ _ h
        exact ⟨_ :: l, by rw [h1, List.append_assoc]; rfl, by simp [Ss.len, h2]⟩
      · cases h
    · cases h
  | .sc c b body y d r, st, lg, st', lg', h => by
    simp only [evS] at h
    split at h
    · split at h
      · split at h
        · rename_i st1 l1 hb
          obtain ⟨l0, g1, g2⟩ := evS_len body _ _ _ _ hb
          split at h
          · obtain ⟨l, h1, h2⟩ := evS_len r _ _ _ _ h
            refine ⟨l1 ++ [([], [])] ++ l, by rw [h1]; simp, ?_⟩
            simp only [List.nil_append] at g1
            subst g1
            simp [Ss.len, g2, h2]
          · cases h
        · cases h
      · obtain ⟨l, h1, h2⟩ := evS_len r _ _ _ _ h
        refine ⟨List.replicate body.len ([], []) ++ [([], [])] ++ l, by rw [h1]; simp, ?_⟩
        simp [Ss.len, h2]
    · cases h

theorem evS_ok {P : Program} {call : CallF} (hcall : CallSound P call) : ∀ (s : Ss) (st : St) (lg : Log) (st' : St) (lg' : Log), evS call s st lg = some (st', lg') → wpsL P s (fun s l => s = st' ∧ l = lg') st lg
  | .nil, st, lg, st', lg', h => by simp only [evS, Option.some.injEq, Prod.mk.injEq] at h; exact h
  | .op d o r, st, lg, st', lg', h => by
    simp only [evS] at h
    split at h
    · rename_i hc
      split at h
      · rename_i x hx
        simp only [wpsL, hx]
        exact ⟨chk_ok hx hc, evS_ok hcall r _ _ _ _ h⟩
      · cases h
    · cases h
  | .call d f args r, st, lg, st', lg', h => by
    simp only [evS] at h
    split at h
    · rename_i c vs ht
      split at h
      · rename_i v hp tk uk hv
        obtain ⟨T, ups, h1, h2, h3, h4, h5⟩ := hcall _ _ _ _ _ _ _ hv
        simp only [wpsL, ht]
        refine ⟨T, v, ups, hp, h1, h2, h3, ?_⟩
        rw [h4, h5]
        exact evS_ok hcall r _ _ _ _ h
      · cases h
    · cases h
  | .sc c b body y d r, st, lg, st', lg', h => by
    simp only [evS] at h
    split at h
    · rename_i x hx
      simp only [wpsL, hx]
      split at h
      · rename_i hxb
        split at h
        · rename_i st1 l1 hb
          split at h
          · rename_i yv hy
            obtain ⟨l0, g1, g2⟩ := evS_len body _ _ _ _ hb
            refine ⟨yv, st1.hp, l1, by rw [g1]; simpa using g2, fun _ => wpsL_mono ?_ body _ _ (evS_ok hcall body _ _ _ _ hb), fun hn => absurd hxb hn, evS_ok hcall r _ _ _ _ h⟩
            rintro s l ⟨rfl, rfl⟩
            exact ⟨hy, rfl, rfl⟩
          · cases h
        · cases h
      · rename_i hxb
        refine ⟨false, st.hp, List.replicate body.len ([], []), by simp, fun he => absurd he hxb, fun _ => rfl, ?_⟩
        have e : (if b = true then x && false else x || false) = x := by cases b <;> cases x <;> simp_all
        rw [e]
        exact evS_ok hcall r _ _ _ _ h
    · cases h

theorem wps_of_wpsL {P : Program} : ∀ (s : Ss) (K : St → Prop) (st : St) (lg : Log), wpsL P s (fun s _ => K s) st lg → wps P s K st
  | .nil, K, st, lg, h => h
  | .op d o r, K, st, lg, h => by
    simp only [wpsL] at h
    simp only [wps]
    split at h
    · exact ⟨h.1, wps_of_wpsL r K _ _ h.2⟩
    · exact h.elim
  | .call d f args r, K, st, lg, h => by
    simp only [wpsL] at h
    simp only [wps]
    split at h
    · obtain ⟨T, v, ups, hp, h1, h2, h3, h4⟩ := h
      exact ⟨T, v, ups, hp, h1, h2, h3, wps_of_wpsL r K _ _ h4⟩
    · exact h.elim
  | .sc c b body y d r, K, st, lg, h => by
    simp only [wpsL] at h
    simp only [wps]
    split at h
    · obtain ⟨yv, hp, l, h1, h2, h3, h4⟩ := h
      refine ⟨yv, hp, fun e => wps_of_wpsL body _ _ [] (wpsL_mono ?_ body _ _ (h2 e)), h3, wps_of_wpsL r K _ _ h4⟩
      rintro s l' ⟨q1, q2, _⟩
      exact ⟨q1, q2⟩
    · exact h.elim

theorem wps_mono {P : Program} {K K' : St → Prop} (hK : ∀ s, K s → K' s) : ∀ (s : Ss) (st : St), wps P s K st → wps P s K' st
  | .nil, st, h => hK _ h
  | .op d o r, st, h => by
    simp only [wps] at h ⊢
    split at h
    · exact ⟨h.1, wps_mono hK r _ h.2⟩
    · exact h.elim
  | .call d f args r, st, h => by
    simp only [wps] at h ⊢
    split at h
    · obtain ⟨T, v, ups, hp, h1, h2, h3, h4⟩ := h
      exact ⟨T, v, ups, hp, h1, h2, h3, wps_mono hK r _ h4⟩
    · exact h.elim
  | .sc c b body y d r, st, h => by
    simp only [wps] at h ⊢
    split at h
    · obtain ⟨yv, hp, h1, h2, h3⟩ := h
      exact ⟨yv, hp, h1, h2, wps_mono hK r _ h3⟩
    · exact h.elim

theorem wpc_mono {P : Program} {D : Nat → Prop} : ∀ (ic : Ic) {Q Q' : Exit → St → Prop} (st : St), (∀ e s, Q e s → Q' e s) → wpc P D ic Q st → wpc P D ic Q' st
  | .skip, Q, Q', st, hQ, h => hQ _ _ h
  | .reg s, Q, Q', st, hQ, h => wps_mono (fun s => hQ _ s) s st h
  | .regd un s, Q, Q', st, hQ, h => wpsL_mono (fun s lg h => ⟨h.1, hQ _ _ h.2⟩) s st [] h
  | .dn a ts, Q, Q', st, hQ, h => wpc_mono a st (fun e s h => by cases e <;> exact hQ _ _ h) h
  | .seq a b, Q, Q', st, hQ, h => wpc_mono a st (fun e s h => by
      cases e with
      | normal => exact wpc_mono b s hQ h
      | _ => exact hQ _ _ h) h
  | .ite c a b, Q, Q', st, hQ, h => by
    simp only [wpc] at h ⊢
    split at h
    · exact ⟨fun e => wpc_mono a st hQ (h.1 e), fun e => wpc_mono b st hQ (h.2 e)⟩
    · exact h.elim
  | .block id b, Q, Q', st, hQ, h => wpc_mono b st (fun e s h => by
      cases e with
      | exit id' =>
        simp only at h ⊢
        split at h
        · rename_i e; rw [if_pos e]; exact hQ _ _ h
        · rename_i e; rw [if_neg e]; exact hQ _ _ h
      | _ => exact hQ _ _ h) h
  | .loop b, Q, Q', st, hQ, h => by
    obtain ⟨I, h0, h1⟩ := h
    refine ⟨I, h0, fun n s hs => wpc_mono b s (fun e s h => ?_) (h1 n s hs)⟩
    cases e with
    | normal => exact h
    | _ => exact hQ _ _ h
  | .exit id, Q, Q', st, hQ, h => hQ _ _ h
  | .lab, Q, Q', st, hQ, h => hQ _ _ h
  | .scp a, Q, Q', st, hQ, h => wpc_mono a st (fun e s h => by
      cases e with
      | goto l => exact h.elim
      | _ => exact hQ _ _ h) h
  | .ret, Q, Q', st, hQ, h => hQ _ _ h
  | .bad, _, _, _, _, h => h
  | .rng f N lid ps c1 c2 asg body, Q, Q', st, hQ, h => by
    obtain ⟨h0, h⟩ := h
    refine ⟨h0, fun e1 e2 => ?_⟩
    have h := h e1 e2
    split at h
    · obtain ⟨T, v, ups, g1, g2, g3, hp, l, g4, g5, g6, g7, g8⟩ := h
      refine ⟨T, v, ups, g1, g2, g3, hp, l, g4, g5, g6, g7, ?_⟩
      split at g8
      · exact hQ _ _ g8
      · exact hQ _ _ g8
      · exact hQ _ _ g8
      · exact g8.elim
    · exact h.elim

/-! ### code -/
def firstS {α : Type} (f : Nat → Option α) : List Nat → Option α
  | [] => none
  | i :: r => match f i with
    | some x => some x
    | none => firstS f r
theorem firstS_ok {α : Type} {f : Nat → Option α} {x : α} : ∀ {l : List Nat}, firstS f l = some x → ∃ i, f i = some x
  | [], h => by cases h
  | i :: r, h => by
    simp only [firstS] at h
    split at h
    · rename_i y hy; cases h; exact ⟨i, hy⟩
    · exact firstS_ok h
def rowsOf (Db : Nat → Bool) : List (Nat × Obj) → List Nat
  | [] => []
  | (i, .row ..) :: r => if Db i then rowsOf Db r else i :: rowsOf Db r
  | _ :: r => rowsOf Db r

def evL (Db : Nat → Bool) (ts : List Nat) (f : St → Option (Exit × St)) : Nat → St → Option (Exit × St)
  | 0, _ => none
  | n + 1, st => match f st with
    | some (.normal, s) => match evL Db ts f n (gc Db ts s) with
      | some r => some r
      | none => firstS (fun i => evL Db ts f n (gc Db ts (frz1 i (gc Db ts s)))) (rowsOf Db (gc Db ts s).hp)
    | r => r

def evC (call : CallF) (L : Nat) (Db : Nat → Bool) : Ic → St → Option (Exit × St)
  | .skip, st => some (.normal, st)
  | .reg s, st => match evS call s st [] with
    | some (s, _) => some (.normal, s)
    | none => none
  | .regd un s, st => match evS call s st [] with
    | some (s, lg) => if apartAll lg un then some (.normal, s) else none
    | none => none
  | .dn a ts, st => match evC call L Db a st with
    | some (.normal, s) => some (.normal, ⟨drops s.tm ts, s.hp⟩)
    | r => r
  | .seq a b, st => match evC call L Db a st with
    | some (.normal, s) => evC call L Db b s
    | r => r
  | .ite c a b, st => match val (get st.tm) c with
    | some (.d (.bool x)) => match x with
      | true => evC call L Db a st
      | false => evC call L Db b st
    | _ => none
  | .block id b, st => match evC call L Db b st with
    | some (.exit id', s) => if id' = id then some (.normal, s) else some (.exit id', s)
    | r => r
  | .loop b, st => evL Db (keys st.tm) (fun s => evC call L Db b s) L (gc Db (keys st.tm) st)
  | .exit id, st => some (.exit id, st)
  | .ret, st => some (.ret, st)
  | .bad, _ => none
  | .lab, st => some (.normal, st)
  | .scp b, st => match evC call L Db b st with
    | some (.goto _, _) => none
    | r => r
  | .rng f N lid ps c1 c2 _ _, st => match get st.hp lid with
    | some _ => none
    | none => match targetV (get st.tm) (.dyn f) [.mp lid] with
      | some (.fn g, vs) => match call (.fn g) vs (put st.hp lid (.lp ⟨st.tm, N, ps, c1, c2, .ready, none⟩)) with
        | some (_, hp, _, _) => match get hp lid with
          | some (.lp l) => match l.s with
            | .busy => none
            | _ => match l.j with
              | none => some (.normal, ⟨st.tm, put hp lid .gone⟩)
              | some .ret => some (.ret, ⟨st.tm, put hp lid .gone⟩)
              | some (.exit id) => some (.exit id, ⟨st.tm, put hp lid .gone⟩)
              | _ => none
          | _ => none
        | none => none
      | _ => none

/-- functions that are called have bodies -/
def CallHas (P : Program) (call : CallF) : Prop := ∀ g vs hp r, call (.fn g) vs hp = some r → (∃ i ∈ idsAL vs, True) → Has P g

theorem evC_ok {P : Program} {D : Nat → Prop} {Db : Nat → Bool} (hD : ∀ i, D i → Db i = true) {call : CallF} {L : Nat} (hcall : CallSound P call) (hhas : CallHas P call) :
    ∀ (ic : Ic) (st : St) (e : Exit) (st' : St), evC call L Db ic st = some (e, st') → wpc P D ic (fun e' s => e' = e ∧ s = st') st := by
  intro ic
  induction ic with
  | skip => intro st e st' h; simp only [evC, Option.some.injEq, Prod.mk.injEq] at h; obtain ⟨rfl, rfl⟩ := h; exact ⟨rfl, rfl⟩
  | reg s =>
    intro st e st' h
    simp only [evC] at h
    split at h
    · rename_i s' lg hs
      simp only [Option.some.injEq, Prod.mk.injEq] at h
      obtain ⟨rfl, rfl⟩ := h
      exact wps_of_wpsL s _ st [] (wpsL_mono (fun s l h => ⟨rfl, h.1⟩) s st [] (evS_ok hcall s _ _ _ _ hs))
    · cases h
  | regd un s =>
    intro st e st' h
    simp only [evC] at h
    split at h
    · rename_i s' lg hs
      split at h
      · rename_i ha
        simp only [Option.some.injEq, Prod.mk.injEq] at h
        obtain ⟨rfl, rfl⟩ := h
        exact wpsL_mono (fun s l h => ⟨by rw [h.2]; exact ha, rfl, h.1⟩) s st [] (evS_ok hcall s _ _ _ _ hs)
      · cases h
    · cases h
  | dn a ts ih =>
    intro st e st' h
    simp only [evC] at h
    split at h
    · rename_i s hs
      simp only [Option.some.injEq, Prod.mk.injEq] at h
      obtain ⟨rfl, rfl⟩ := h
      exact wpc_mono a st (fun e s' h => by obtain ⟨rfl, rfl⟩ := h; exact ⟨rfl, rfl⟩) (ih st _ _ hs)
    · rename_i hne
      refine wpc_mono a st (fun e' s' h' => ?_) (ih st _ _ h)
      obtain ⟨rfl, rfl⟩ := h'
      cases e' with
      | normal => exact absurd h (hne _)
      | _ => exact ⟨rfl, rfl⟩
  | seq a b iha ihb =>
    intro st e st' h
    simp only [evC] at h
    split at h
    · rename_i s hs
      exact wpc_mono a st (fun e' s' h' => by obtain ⟨rfl, rfl⟩ := h'; exact ihb _ _ _ h) (iha st _ _ hs)
    · rename_i hne
      refine wpc_mono a st (fun e' s' h' => ?_) (iha st _ _ h)
      obtain ⟨rfl, rfl⟩ := h'
      cases e' with
      | normal => exact absurd h (hne _)
      | _ => exact ⟨rfl, rfl⟩
  | ite c a b iha ihb =>
    intro st e st' h
    simp only [evC] at h
    simp only [wpc]
    split at h
    · rename_i x hx
      rw [hx]
      split at h
      · exact ⟨fun _ => iha _ _ _ h, fun e => (by cases e)⟩
      · exact ⟨fun e => (by cases e), fun _ => ihb _ _ _ h⟩
    · cases h
  | block id b ih =>
    intro st e st' h
    simp only [evC] at h
    split at h
    · rename_i id' s hs
      refine wpc_mono b st (fun e' s' h' => ?_) (ih st _ _ hs)
      obtain ⟨rfl, rfl⟩ := h'
      simp only
      split at h
      · rename_i e1; rw [if_pos e1]; simp only [Option.some.injEq, Prod.mk.injEq] at h; obtain ⟨rfl, rfl⟩ := h; exact ⟨rfl, rfl⟩
      · rename_i e1; rw [if_neg e1]; simp only [Option.some.injEq, Prod.mk.injEq] at h; obtain ⟨rfl, rfl⟩ := h; exact ⟨rfl, rfl⟩
    · rename_i hne
      refine wpc_mono b st (fun e' s' h' => ?_) (ih st _ _ h)
      obtain ⟨rfl, rfl⟩ := h'
      cases e' with
      | exit id' => exact absurd h (hne _ _)
      | _ => exact ⟨rfl, rfl⟩
  | loop b ih =>
    intro st e st' h
    simp only [evC] at h
    refine ⟨fun n s => evL Db (keys st.tm) (fun s => evC call L Db b s) n s = some (e, st'), ⟨L, _, gc_ok hD _ st, h⟩, ?_⟩
    intro n s hs
    cases n with
    | zero => cases hs
    | succ n =>
      simp only [evL] at hs
      split at hs
      · rename_i s1 h1
        refine wpc_mono b s (fun e' s' h' => ?_) (ih s _ _ h1)
        obtain ⟨rfl, rfl⟩ := h'
        split at hs
        · rename_i r hr
          cases hs
          exact ⟨n, _, by omega, gc_ok hD _ _, hr⟩
        · obtain ⟨i, hi⟩ := firstS_ok hs
          exact ⟨n, _, by omega, (gc_ok hD _ _).trans ((frz1_ok i _).trans (gc_ok hD _ _)), hi⟩
      · rename_i hne
        refine wpc_mono b s (fun e' s' h' => ?_) (ih s _ _ hs)
        obtain ⟨rfl, rfl⟩ := h'
        cases e' with
        | normal => exact absurd hs (hne _)
        | _ => exact ⟨rfl, rfl⟩
  | exit id => intro st e st' h; simp only [evC, Option.some.injEq, Prod.mk.injEq] at h; obtain ⟨rfl, rfl⟩ := h; exact ⟨rfl, rfl⟩
  | ret => intro st e st' h; simp only [evC, Option.some.injEq, Prod.mk.injEq] at h; obtain ⟨rfl, rfl⟩ := h; exact ⟨rfl, rfl⟩
  | bad => intro st e st' h; cases h
  | lab => intro st e st' h; simp only [evC, Option.some.injEq, Prod.mk.injEq] at h; obtain ⟨rfl, rfl⟩ := h; exact ⟨rfl, rfl⟩
  | scp b ih =>
    intro st e st' h
    simp only [evC] at h
    split at h
    · cases h
    · rename_i hne
      refine wpc_mono b st (fun e' s' h' => ?_) (ih st _ _ h)
      obtain ⟨rfl, rfl⟩ := h'
      cases e' with
      | goto l => exact absurd h (hne _ _)
      | _ => exact ⟨rfl, rfl⟩
  | rng f N lid ps c1 c2 asg body _ _ =>
    intro st e st' h
    simp only [evC] at h
    split at h
    · cases h
    rename_i hlid
    refine ⟨hlid, fun _ _ => ?_⟩
    split at h
    case h_2 => cases h
    rename_i g vs htg
    split at h
    case h_2 => cases h
    rename_i v hp tk uk hv
    rw [htg]
    have hmem : ∃ i ∈ idsAL vs, True := by
      have hAL : ∀ (a b : List Av), idsAL (a ++ b) = idsAL a ++ idsAL b := by
        intro a b
        induction a with
        | nil => rfl
        | cons c r ih => simp [idsAL, ih]
      refine ⟨lid, ?_, trivial⟩
      simp only [targetV] at htg
      split at htg
      · simp only [Option.some.injEq, Prod.mk.injEq] at htg; rw [← htg.2, hAL, hAL]; simp [idsAL, idsA]
      · simp only [Option.some.injEq, Prod.mk.injEq] at htg; rw [← htg.2, hAL, hAL]; simp [idsAL, idsA]
      · simp at htg
      · cases htg
    obtain ⟨T, ups, h1, h2, h3, _, _⟩ := hcall _ _ _ _ _ _ _ hv
    have hupd : get (put st.hp lid (.lp ⟨st.tm, N, ps, c1, c2, .ready, none⟩)) = upd (get st.hp) lid (some (.lp ⟨st.tm, N, ps, c1, c2, .ready, none⟩)) := funext fun j => by rw [get_put]; rfl
    rw [hupd] at h2 h3
    split at h
    case h_2 => cases h
    rename_i l hl
    have hll := h3 lid
    rw [hl] at hll
    refine ⟨T, v, ups, hhas _ _ _ _ hv hmem, h1, h2, put hp lid .gone, l, ?_, ?_, hll.symm, ?_, ?_⟩
    · intro i hi
      rw [get_put, if_neg hi, h3, hputs_upd_ne _ _ _ _ _ hi]
    · rw [get_put, if_pos rfl]
    · intro e
      simp [e] at h
    · split at h
      · cases h
      split at h
      · rename_i hj; rw [hj]; simp only [Option.some.injEq, Prod.mk.injEq] at h; obtain ⟨rfl, rfl⟩ := h; exact ⟨rfl, rfl⟩
      · rename_i hj; rw [hj]; simp only [Option.some.injEq, Prod.mk.injEq] at h; obtain ⟨rfl, rfl⟩ := h; exact ⟨rfl, rfl⟩
      · rename_i hj; rw [hj]; simp only [Option.some.injEq, Prod.mk.injEq] at h; obtain ⟨rfl, rfl⟩ := h; exact ⟨rfl, rfl⟩
      · cases h
end Av

namespace Av
open Go
variable [Glb] [Rls]

/-! ### results -/
def condParts (H : Heap) : List Av → Bool
  | [] => true
  | c :: r => (mine c || condA H c) && condParts (hputs H (part1 H c).2.2) r
def condFin (H : Heap) : Av → Bool
  | .agg cs => match datum H (.agg cs) with
    | some _ => condA H (.agg cs)
    | none => condParts H cs
  | .clo _ fs cs => condParts H fs && condParts (hputs H (parts1 H fs).2.2) cs
  | v => condA H v
def condFins (k : Bool) (H : Heap) : List Av → Bool
  | [] => true
  | c :: r => (k || condFin H c) && match fin1 k H c with
    | some (_, _, u) => condFins k (hputs H u) r
    | none => true
def chkOuts : List RI → St → Bool
  | [], _ => true
  | .tmp _ :: r, st => chkOuts r st
  | .cell a n :: r, st => chk (get st.tm) (get st.hp) (.ld n (.t a)) && chkOuts r st

theorem condParts_ok : ∀ {cs : List Av} {H : Heap}, condParts H cs = true → (parts1 H cs).1
  | [], _, _ => trivial
  | c :: r, H, h => by
    simp only [condParts, Bool.and_eq_true, Bool.or_eq_true] at h
    refine ⟨?_, condParts_ok h.2⟩
    unfold part1
    split
    · trivial
    · rename_i hm
      have hc := h.1.resolve_left hm
      split
      · rename_i p x u e; exact condA_ok e hc
      · trivial
theorem condFin_ok {H : Heap} {c v : Av} {p : Prop} {u : List (Nat × Obj)} (h : finF H c = some (p, v, u)) (hc : condFin H c = true) : p := by
  unfold finF at h
  split at h
  · cases h; trivial
  · cases h; trivial
  · cases h; trivial
  · split at h <;> cases h; trivial
  · split at h
    · cases h; trivial
    · split at h
      · rename_i e; cases h; exact condA_ok e hc
      · cases h
  · split at h
    · cases h; trivial
    · split at h
      · rename_i e; cases h; exact condA_ok e hc
      · cases h
  · split at h
    · cases h; trivial
    · split at h
      · rename_i e; cases h; exact condA_ok e hc
      · cases h
  · rename_i cs
    unfold condFin at hc
    split at h
    · rename_i e; cases h; simp only [e] at hc; exact condA_ok e hc
    · rename_i e
      simp only [Option.some.injEq, Prod.mk.injEq] at h
      simp only [e] at hc
      rw [← h.1]
      exact condParts_ok hc
  · rename_i f fs cs
    simp only [condFin, Bool.and_eq_true] at hc
    have h1 := condParts_ok hc.1
    have h2 := condParts_ok hc.2
    split at h
    rename_i p1 fs' u1 e1
    split at h
    rename_i q1 cs' u2 e2
    have f1 : (parts1 H fs).1 = p1 := by rw [e1]
    have f3 : (parts1 H fs).2.2 = u1 := by rw [e1]
    rw [f3] at h2
    have g1 : (parts1 (hputs H u1) cs).1 = q1 := by rw [e2]
    split at h
    · simp only [Option.some.injEq, Prod.mk.injEq] at h; rw [← h.1]; exact ⟨f1 ▸ h1, g1 ▸ h2⟩
    · simp only [Option.some.injEq, Prod.mk.injEq] at h; rw [← h.1]; exact ⟨f1 ▸ h1, g1 ▸ h2⟩
  · cases h
theorem condFins_ok {k : Bool} : ∀ {cs vs : List Av} {H : Heap} {p : Prop} {u : List (Nat × Obj)}, fins k H cs = some (p, vs, u) → condFins k H cs = true → p
  | [], vs, H, p, u, h, _ => by simp only [fins, Option.some.injEq, Prod.mk.injEq] at h; rw [← h.1]; trivial
  | c :: r, vs, H, p, u, h, hc => by
    simp only [fins] at h
    simp only [condFins, Bool.and_eq_true, Bool.or_eq_true] at hc
    cases e1 : fin1 k H c with
    | none => simp [e1] at h
    | some q =>
      obtain ⟨p1, x, u1⟩ := q
      simp only [e1] at h hc
      cases e2 : fins k (hputs H u1) r with
      | none => simp [e2] at h
      | some q2 =>
        obtain ⟨p2, xs', u2⟩ := q2
        simp only [e2, Option.some.injEq, Prod.mk.injEq] at h
        rw [← h.1]
        refine ⟨?_, condFins_ok e2 hc.2⟩
        cases k with
        | false => exact condFin_ok e1 (hc.1.resolve_left (by simp))
        | true =>
          have e1 : finK c = some (p1, x, u1) := e1
          cases c <;> simp [finK] at e1 <;> exact e1.1
theorem chkOuts_ok : ∀ {ris : List RI} {st : St} {p : Prop} {cs : List Av}, outs ris st = some (p, cs) → chkOuts ris st = true → p
  | [], st, p, cs, h, _ => by simp only [outs, Option.some.injEq, Prod.mk.injEq] at h; rw [← h.1]; trivial
  | .tmp t :: r, st, p, cs, h, hc => by
    simp only [outs] at h
    simp only [chkOuts] at hc
    split at h
    · rename_i e; cases h; exact chkOuts_ok e hc
    · cases h
  | .cell a n :: r, st, p, cs, h, hc => by
    simp only [outs] at h
    simp only [chkOuts, Bool.and_eq_true] at hc
    split at h
    · rename_i e1 e2; cases h; exact ⟨chk_ok e1 hc.1, chkOuts_ok e2 hc.2⟩
    · cases h

def evEnd (k : Bool) (ris : List RI) (st : St) : Option (Av × List (Nat × Obj)) := match chkOuts ris st with
  | false => none
  | true => match outs ris st with
    | none => none
    | some (_, cs) => match condFins k (get st.hp) cs with
      | false => none
      | true => match fins k (get st.hp) cs with
        | some (_, rs, u) => some (retV rs, puts st.hp u)
        | none => none

def D0b (i : Nat) : Bool := Nat.ble 1000 i

def evF (P : Program) (k : Bool) (call : CallF) (L : Nat) (f : Nat) (args : List Av) (T : List (Nat × Obj)) : Option (Av × List (Nat × Obj)) :=
  match P.funcs[f]? with
  | none => none
  | some fn => match fn.body with
    | none => none
    | some code => match fn.name == "runtime.NumGoroutine" with
      | true => none
      | false => match trCode P fn.ntmps code, allSome (fn.results.toList.map (trRes P)) with
        | some ic, some ris => match Nat.ble args.length fn.ntmps with
          | false => none
          | true => match evC call L D0b ic ⟨enum 0 args, T⟩ with
            | some (.normal, st) => evEnd k ris st
            | some (.ret, st) => evEnd k ris st
            | _ => none
        | _, _ => none

theorem trCode_strip {P : Program} {N : Nat} : ∀ (ic : Ic) (c : Code), trCode P N c = some ic → strip ic = ic := by
  intro ic
  induction ic with
  | dn a ts ih => intro c h; exact (trCode_inv h).elim
  | seq a b iha ihb => intro c h; obtain ⟨x, y, _, h1, h2⟩ := trCode_inv h; simp only [strip, iha x h1, ihb y h2]
  | ite c' a b iha ihb => intro c h; obtain ⟨_, x, y, _, _, h1, h2⟩ := trCode_inv h; simp only [strip, iha x h1, ihb y h2]
  | block id b ih => intro c h; obtain ⟨x, _, h1⟩ := trCode_inv h; simp only [strip, ih x h1]
  | loop b ih => intro c h; obtain ⟨x, _, h1⟩ := trCode_inv h; simp only [strip, ih x h1]
  | scp b ih => intro c h; obtain ⟨x, _, h1⟩ := trCode_inv h; simp only [strip, ih x h1]
  | rng f N' lid ps c1 c2 a b iha ihb => intro c h; obtain ⟨_, g, _, _, h1, h2, _⟩ := trCode_inv h; simp only [strip, iha c1 h1, ihb c2 h2]
  | _ => intro c h; rfl

theorem hputs_nodup : ∀ (l : List (Nat × Obj)) (H : Heap) (k : Nat), (keys l).Nodup → hputs H l k = match get l k with | some o => some o | none => H k
  | [], H, k, _ => rfl
  | (i, o) :: r, H, k, hn => by
    simp only [keys, List.map_cons, List.nodup_cons] at hn
    simp only [hputs, get]
    rw [hputs_nodup r _ k hn.2]
    by_cases h : i = k
    · subst h
      rw [if_pos rfl]
      have : get r i = none := by
        cases hg : get r i with
        | none => rfl
        | some o' => exact absurd (List.mem_map.2 ⟨_, get_mem r i o' hg, rfl⟩) hn.1
      rw [this]
      exact upd_same _ _ _
    · rw [if_neg h]
      split
      · rfl
      · exact upd_ne _ _ (Ne.symm h)

def nodupB : List Nat → Bool
  | [] => true
  | i :: r => !r.contains i && nodupB r
theorem nodupB_ok : ∀ {l : List Nat}, nodupB l = true → l.Nodup
  | [], _ => List.nodup_nil
  | i :: r, h => by
    simp only [nodupB, Bool.and_eq_true, Bool.not_eq_true'] at h
    exact List.nodup_cons.2 ⟨by simpa using h.1, nodupB_ok h.2⟩

/-- are these all the objects that there will be? -/
def endOK (T : List (Nat × Obj)) (v : Av) (ups : List (Nat × Obj)) : Bool :=
  nodupB (keys ups) && (T.all fun e => (keys ups).contains e.1) && inB (keys ups) v && (ups.all fun e => inBO (keys ups) e.2)

theorem endOK_ok {T ups : List (Nat × Obj)} {v : Av} (h : endOK T v ups = true) : hputs (get T) ups = get ups ∧ closed (hputs (get T) ups) ∧ inT (hputs (get T) ups) v ∧ ∀ e ∈ T, (get ups e.1).isSome = true := by
  simp only [endOK, Bool.and_eq_true, List.all_eq_true] at h
  obtain ⟨⟨⟨h1, h2⟩, h3⟩, h4⟩ := h
  have hT : ∀ e ∈ T, (get ups e.1).isSome = true := fun e he => get_keys.1 (h2 e he)
  have e1 : hputs (get T) ups = get ups := by
    funext k
    rw [hputs_nodup ups _ k (nodupB_ok h1)]
    cases hg : get ups k with
    | some o => rfl
    | none =>
      cases ht : get T k with
      | none => rfl
      | some o =>
        have := hT (k, o) (get_mem T k o ht)
        rw [hg] at this
        cases this
  have hG : ∀ i, (keys ups).contains i = true → (hputs (get T) ups i).isSome = true := fun i hi => by rw [e1]; exact get_keys.1 hi
  exact ⟨e1, fun i o hi => inBO_ok hG o (h4 (i, o) (get_mem ups i o (by rw [← e1]; exact hi))), inB_ok hG v h3, hT⟩

theorem evF_con {P : Program} {k : Bool} {call : CallF} {L f : Nat} {args : List Av} {T : List (Nat × Obj)} {v : Av} {fh : List (Nat × Obj)} {ko : List Nat} (hcall : CallSound P call) (hhas : CallHas P call) (h : evF P k call L f args T = some (v, fh))
    (hend : endOK T v (keeps fh ko) = true) : Con P f args T v (keeps fh ko) := by
  unfold evF at h
  split at h
  · cases h
  rename_i fn hf
  split at h
  · cases h
  rename_i code hb
  split at h
  · cases h
  rename_i hname
  split at h
  case h_2 => cases h
  rename_i ic ris htr hres
  split at h
  · cases h
  rename_i hn
  obtain ⟨g1, g2, g3, g4⟩ := endOK_ok hend
  have main : ∀ e st, evC call L D0b ic ⟨enum 0 args, T⟩ = some (e, st) → (e = .normal ∨ e = .ret) → evEnd k ris st = some (v, fh) → Con P f args T v (keeps fh ko) := by
    intro e st hev he hen
    refine Con.of_code (k := k) hf hb hname (by rw [trCode_strip ic code htr]; exact htr) hres (Nat.le_of_ble_eq_true hn) g2 g3 (wpc_mono ic _ ?_ (evC_ok (D := D0) (fun i hi => Nat.ble_eq_true_of_le hi) hcall hhas ic _ _ _ hev))
    rintro e' s ⟨rfl, rfl⟩
    refine ⟨he, ?_⟩
    unfold evEnd at hen
    split at hen
    · cases hen
    rename_i hco
    split at hen
    · cases hen
    rename_i p cs ho
    split at hen
    · cases hen
    rename_i hcf
    split at hen
    case h_2 => cases hen
    rename_i q rs u hfi
    simp only [Option.some.injEq, Prod.mk.injEq] at hen
    obtain ⟨rfl, rfl⟩ := hen
    rw [ho]
    refine ⟨chkOuts_ok ho hco, ?_⟩
    rw [hfi]
    refine ⟨condFins_ok hfi hcf, rfl, ?_⟩
    have hall : ∀ k, (get (keeps (puts s.hp u) ko) k).isSome = true → hputs (get s.hp) u k = hputs (get T) (keeps (puts s.hp u) ko) k := by
      intro k hk
      rw [g1, get_keeps, ← get_puts]
      rw [get_keeps] at hk
      split
      · rfl
      · rename_i hn; rw [if_neg hn] at hk; cases hk
    have hmem : ∀ e ∈ T ++ keeps (puts s.hp u) ko, (get (keeps (puts s.hp u) ko) e.1).isSome = true := by
      intro e he
      rcases List.mem_append.1 he with he | he
      · exact g4 e he
      · exact get_keys.1 (by simp only [keys, List.contains_eq_mem, decide_eq_true_eq]; exact List.mem_map.2 ⟨e, he, rfl⟩)
    generalize T ++ keeps (puts s.hp u) ko = l at hmem
    induction l with
    | nil => trivial
    | cons e r ih => exact ⟨hall e.1 (hmem e List.mem_cons_self), ih fun e' he' => hmem e' (List.mem_cons_of_mem _ he')⟩
  split at h
  · rename_i st hev; exact main _ st hev (.inl rfl) h
  · rename_i st hev; exact main _ st hev (.inr rfl) h
  · cases h

/-! ### renaming there and back -/
theorem Av.ren_ren (σ ρ : Nat → Nat) (c : Av) : (c.ren σ).ren ρ = c.ren (fun i => ρ (σ i)) :=
  Av.rec (motive_1 := fun c => (c.ren σ).ren ρ = c.ren (fun i => ρ (σ i))) (motive_2 := fun cs => renL ρ (renL σ cs) = renL (fun i => ρ (σ i)) cs) (fun _ => rfl) (fun _ _ => rfl) (fun _ _ => rfl) (fun _ _ _ _ => rfl) (fun _ _ _ _ => rfl)
    (fun cs ih => by simp only [Av.ren, ih]) (fun cs ih => by simp only [Av.ren, ih]) (fun f a b iha ihb => by simp only [Av.ren, iha, ihb]) (fun _ => rfl) (fun _ _ => rfl) rfl rfl rfl (fun c r ihc ihr => by simp only [renL, ihc, ihr]) c
theorem renL_ren (σ ρ : Nat → Nat) (cs : List Av) : renL ρ (renL σ cs) = renL (fun i => ρ (σ i)) cs := by
  simp only [renL_map, List.map_map]
  exact List.map_congr_left fun c _ => Av.ren_ren σ ρ c
theorem renT_ren (σ ρ : Nat → Nat) : ∀ l : List (Nat × Av), renT ρ (renT σ l) = renT (fun i => ρ (σ i)) l
  | [] => rfl
  | (t, c) :: r => by simp only [renT, Av.ren_ren, renT_ren σ ρ r]
theorem Obj.ren_ren (σ ρ : Nat → Nat) (o : Obj) : (o.ren σ).ren ρ = o.ren (fun i => ρ (σ i)) := by
  cases o with
  | box cs => simp only [Obj.ren, renL_ren]
  | lp l => simp only [Obj.ren, renT_ren]
  | _ => rfl
/-- numbers that stay -/
theorem Av.ren_fix {ks : List Nat} {σ : Nat → Nat} (hσ : ∀ i, ks.contains i = true → σ i = i) (c : Av) : inB ks c = true → c.ren σ = c :=
  Av.rec (motive_1 := fun c => inB ks c = true → c.ren σ = c) (motive_2 := fun cs => inBL ks cs = true → renL σ cs = cs) (fun _ _ => rfl) (fun i _ h => by simp only [Av.ren, hσ i h]) (fun i _ h => by simp only [Av.ren, hσ i h])
    (fun i _ _ _ h => by simp only [Av.ren, hσ i h]) (fun i _ _ _ h => by simp only [Av.ren, hσ i h]) (fun cs ih h => by simp only [Av.ren, ih h]) (fun cs ih h => by simp only [Av.ren, ih h])
    (fun f a b iha ihb h => by simp only [inB, Bool.and_eq_true] at h; simp only [Av.ren, iha h.1, ihb h.2]) (fun i h => by simp only [Av.ren, hσ i h]) (fun i _ h => by simp only [Av.ren, hσ i h]) (fun _ => rfl) (fun _ => rfl) (fun _ => rfl)
    (fun c r ihc ihr h => by simp only [inBL, Bool.and_eq_true] at h; simp only [renL, ihc h.1, ihr h.2]) c
theorem renL_fix {ks : List Nat} {σ : Nat → Nat} (hσ : ∀ i, ks.contains i = true → σ i = i) : ∀ cs : List Av, inBL ks cs = true → renL σ cs = cs
  | [], _ => rfl
  | c :: r, h => by simp only [inBL, Bool.and_eq_true] at h; simp only [renL, Av.ren_fix hσ c h.1, renL_fix hσ r h.2]
theorem renT_fix {ks : List Nat} {σ : Nat → Nat} (hσ : ∀ i, ks.contains i = true → σ i = i) : ∀ cs : List (Nat × Av), inBT ks cs = true → renT σ cs = cs
  | [], _ => rfl
  | (t, c) :: r, h => by simp only [inBT, Bool.and_eq_true] at h; simp only [renT, Av.ren_fix hσ c h.1, renT_fix hσ r h.2]
theorem Obj.ren_fix {ks : List Nat} {σ : Nat → Nat} (hσ : ∀ i, ks.contains i = true → σ i = i) (o : Obj) (h : inBO ks o = true) : o.ren σ = o := by
  cases o with
  | box cs => simp only [Obj.ren, renL_fix hσ cs h]
  | lp l => simp only [Obj.ren, renT_fix hσ l.tm h]
  | _ => rfl

/-- objects under other numbers -/
def shift (σ : Nat → Nat) : List (Nat × Obj) → List (Nat × Obj)
  | [] => []
  | e :: r => (σ e.1, e.2.ren σ) :: shift σ r
theorem shift_map (σ : Nat → Nat) : ∀ l : List (Nat × Obj), shift σ l = l.map fun e => (σ e.1, e.2.ren σ)
  | [] => rfl
  | e :: r => by simp only [shift, List.map_cons, shift_map σ r]
theorem keys_shift (σ : Nat → Nat) (l : List (Nat × Obj)) : keys (shift σ l) = (keys l).map σ := by
  simp only [keys, shift_map, List.map_map]; rfl

def injB (ρ : Nat → Nat) (ks : List Nat) : Bool := ks.all fun i => ks.all fun j => !(ρ i == ρ j) || i == j

/-! ### calls -/
def maxK : List Nat → Nat
  | [] => 0
  | i :: r => Nat.max i (maxK r)
/-- the caller's number of an object: of one that was handed, what it was; of a new one, one that is free -/
def backN (M : Nat) (l : List (Nat × Nat)) (i : Nat) : Nat := if Nat.ble 1000 i then i - 1000 else match get l i with
  | some j => j
  | none => M + i
/-- numbers that are free, from above -/
def freeN (used : List Nat) : Nat → List Nat → List (Nat × Nat)
  | 0, _ => []
  | _, [] => []
  | n + 1, k :: r => if used.contains n then freeN used n (k :: r) else (k, n) :: freeN used n r

def nones (hp : List (Nat × Obj)) : List Nat → Bool
  | [] => true
  | i :: r => (match get hp i with | some _ => false | none => true) && nones hp r

/-- a call of a function that is handed objects, or gives back new ones -/
def callG (P : Program) (kp : Bool) (call : CallF) (L : Nat) (f : Nat) (vs : List Av) (hp : List (Nat × Obj)) : Option (Av × List (Nat × Obj) × List Nat × List Nat) :=
  let T0 := keeps hp (reach hp fuelR (idsAL vs) [])
  match evF P kp call L f (renL (· + 1000) vs) (shift (· + 1000) T0) with
  | none => none
  | some (v, fh) =>
    let ups := keeps fh (reach fh fuelR (idsA v ++ (keys fh).filter D0b) [])
    let M := 1000 * (maxK (keys hp) / 1000 + 1)
    let nw := (keys ups).filter fun k => !(keys (shift (· + 1000) T0)).contains k
    let nm := freeN (keys hp) 1000 (nw.filter fun k => !D0b k)
    if nodupB (keys T0) && inBL (keys T0) vs && (T0.all fun e => inBO (keys T0) e.2) && endOK (shift (· + 1000) T0) v ups && injB (backN M nm) (keys ups) && nones hp (nw.map (backN M nm)) then
      some (v.ren (backN M nm), puts hp (shift (backN M nm) ups), keys T0 ++ nw.map (backN M nm), (keys ups).map (backN M nm))
    else none

def pureB : Av → Bool
  | .d _ => true
  | .tup cs => match allD cs with | some _ => true | none => false
  | _ => false
theorem pureB_ok {v : Av} (h : pureB v = true) : pureR v := by
  unfold pureB at h
  split at h
  · trivial
  · split at h
    · rename_i cs ds hd
      have := allD_ok hd
      subst this
      intro c hc
      obtain ⟨x, _, rfl⟩ := List.mem_map.1 hc
      exact ⟨x, rfl⟩
    · cases h
  · cases h

/-- a round of a loop over a function -/
def callY (P : Program) (call : CallF) (L : Nat) (vs : List Av) (hp : List (Nat × Obj)) : Option (Av × List (Nat × Obj) × List Nat × List Nat) :=
  match vs with
  | .mp i :: args =>
    let b := 1000 * (i / 1000)
    let T0 := keeps hp (reach hp fuelR [i] [])
    let T := shift (· - b) T0
    match get T (i - b) with
    | some (.lp l) => match l.s with
      | .ready => match trCode P l.N l.asg, trCode P l.N l.body with
        | some asg, some body =>
          if args.length == l.ps.size && (l.ps.toList.all fun p => decide (p < l.N)) && inBL (keys T0) args && nodupB (keys T0) && (T0.all fun e => inBO (keys T0) e.2 && Nat.ble b e.1) then
            match evC call L (fun i => (keys T).contains i) asg ⟨putArgs l.tm l.ps.toList (renL (· - b) args), T⟩ with
            | some (.normal, s) => match get s.hp (i - b) with
              | some (.lp l1) => match l1.s with
                | .ready => match evC call L (fun i => (keys T).contains i) body ⟨s.tm, put s.hp (i - b) (.lp { l1 with s := .busy })⟩ with
                  | some (e, s2) => match get s2.hp (i - b) with
                    | some (.lp l2) => match roundEnd e l2 with
                      | some (v, l3) =>
                        let hp3 := put s2.hp (i - b) (.lp l3)
                        let ups := keeps hp3 (reach hp3 fuelR (keys T) [])
                        let nw := (keys ups).filter fun k => !(keys T).contains k
                        if keepOK (fun i => (keys T).contains i) [] hp3 ups && endOK T v ups && injB (· + b) (keys ups) && nones hp (nw.map (· + b)) then
                          some (v, puts hp (shift (· + b) ups), keys T0 ++ nw.map (· + b), (keys ups).map (· + b))
                        else none
                      | none => none
                    | _ => none
                  | none => none
                | _ => none
              | _ => none
            | _ => none
          else none
        | _, _ => none
      | _ => none
    | _ => none
  | _ => none

/-- what is known of functions without running them -/
abbrev Ext := Nat → List Dat → Option Av
def ExtOK (P : Program) (X : Ext) : Prop := ∀ f ds v, X f ds = some v → CallOK P (.fn f) (ds.map .d) [] v []

def callF (P : Program) (X : Ext) (K : Nat → Bool) (L : Nat) : Nat → CallF
  | 0, _, _, _ => none
  | n + 1, c, vs, hp => match c with
    | .fn f => match allD vs with
      | some ds => match X f ds with
        | some v => some (v, hp, [], [])
        | none => match K f with
          | true => callG P true (callF P X K L n) L f vs hp
          | false => match evF P false (callF P X K L n) L f vs [] with
            | some (v, _) => match pureB v with
              | true => some (v, hp, [], [])
              | false => callG P false (callF P X K L n) L f vs hp
            | none => none
      | none => callG P (K f) (callF P X K L n) L f vs hp
    | .yld => callY P (callF P X K L n) L vs hp

section
variable {P : Program} {call : CallF} {L : Nat}

theorem tgets_of {H : Heap} : ∀ {T : List (Nat × Option Obj)}, (∀ e ∈ T, H e.1 = e.2) → tgets H T
  | [], _ => trivial
  | e :: r, h => ⟨h e List.mem_cons_self, tgets_of fun e' he' => h e' (List.mem_cons_of_mem _ he')⟩

theorem get_of_mem {α : Type} : ∀ {l : List (Nat × α)} {k : Nat} {o : α}, (keys l).Nodup → (k, o) ∈ l → get l k = some o
  | (i, x) :: r, k, o, hn, h => by
    simp only [keys, List.map_cons, List.nodup_cons] at hn
    simp only [get]
    rcases List.mem_cons.1 h with h | h
    · cases h; rw [if_pos rfl]
    · have : i ≠ k := fun e => hn.1 (e ▸ List.mem_map.2 ⟨_, h, rfl⟩)
      rw [if_neg this]
      exact get_of_mem hn.2 h

theorem get_shift {σ : Nat → Nat} : ∀ {l : List (Nat × Obj)} {k : Nat}, (get (shift σ l) k).isSome = true → ∃ i, (get l i).isSome = true ∧ σ i = k
  | [], k, h => by cases h
  | (i, o) :: r, k, h => by
    simp only [shift, get] at h
    split at h
    · rename_i e; exact ⟨i, by simp [get], e⟩
    · obtain ⟨j, h1, h2⟩ := get_shift h
      refine ⟨j, ?_, h2⟩
      simp only [get]
      split
      · rfl
      · exact h1

theorem nones_ok {hp : List (Nat × Obj)} : ∀ {l : List Nat}, nones hp l = true → ∀ i ∈ l, get hp i = none
  | [], _, i, h => by cases h
  | j :: r, h, i, hi => by
    simp only [nones, Bool.and_eq_true] at h
    rcases List.mem_cons.1 hi with rfl | hi
    · have := h.1
      split at this
      · cases this
      · assumption
    · exact nones_ok h.2 i hi

theorem injB_ok {ρ : Nat → Nat} {ks : List Nat} (h : injB ρ ks = true) (i j : Nat) (hi : ks.contains i = true) (hj : ks.contains j = true) (e : ρ i = ρ j) : i = j := by
  simp only [injB, List.all_eq_true, Bool.or_eq_true, Bool.not_eq_true', beq_eq_false_iff_ne, beq_iff_eq] at h
  rcases h i (by simpa using hi) j (by simpa using hj) with h | h
  · exact absurd e h
  · exact h

theorem keeps_get {hp : List (Nat × Obj)} {ks : List Nat} {k : Nat} {o : Obj} (hn : nodupB (keys (keeps hp ks)) = true) (h : (k, o) ∈ keeps hp ks) : get hp k = some o := by
  have := get_of_mem (nodupB_ok hn) h
  rw [get_keeps] at this
  split at this
  · exact this
  · cases this

theorem callG_ok {kp : Bool} (hcall : CallSound P call) (hhas : CallHas P call) {f : Nat} {vs : List Av} {hp hp' : List (Nat × Obj)} {v : Av} {tk uk : List Nat} (h : callG P kp call L f vs hp = some (v, hp', tk, uk)) :
    Has P f ∧ ∃ T ups, CallOK P (.fn f) vs T v ups ∧ tgets (get hp) T ∧ (∀ i, get hp' i = hputs (get hp) ups i) ∧ T.map (·.1) = tk ∧ ups.map (·.1) = uk := by
  unfold callG at h
  dsimp only at h
  split at h
  · cases h
  rename_i v0 fh hev
  split at h
  case isFalse => cases h
  rename_i hc
  simp only [Bool.and_eq_true] at hc
  obtain ⟨⟨⟨⟨⟨c1, c2⟩, c3⟩, c4⟩, c5⟩, c6⟩ := hc
  simp only [Option.some.injEq, Prod.mk.injEq] at h
  obtain ⟨rfl, rfl, rfl, rfl⟩ := h
  generalize hT0 : keeps hp (reach hp fuelR (idsAL vs) []) = T0 at *
  generalize hM : 1000 * (maxK (keys hp) / 1000 + 1) = M at *
  generalize hups : keeps fh (reach fh fuelR (idsA v0 ++ (keys fh).filter D0b) []) = ups at *
  generalize hnw : ((keys ups).filter fun k => !(keys (shift (· + 1000) T0)).contains k) = nw at *
  have hcon : Con P f (renL (· + 1000) vs) (shift (· + 1000) T0) v0 ups := by
    rw [← hups]
    exact evF_con hcall hhas hev (by rw [hups]; exact c4)
  obtain ⟨g1, g2, g3, g4⟩ := endOK_ok c4
  generalize hnm : freeN (keys hp) 1000 (nw.filter fun k => !D0b k) = nm at *
  have hback : ∀ i, backN M nm (i + 1000) = i := by intro i; simp [backN, Nat.ble_eq]
  have hbig : ∀ i, (get (shift (· + 1000) T0) i).isSome = true → 1000 ≤ i := by
    intro i hi
    obtain ⟨j, _, rfl⟩ := get_shift hi
    omega
  have hG0 : ∀ i, (keys T0).contains i = true → (get (shift (· + 1000) T0) (i + 1000)).isSome = true := by
    intro i hi
    rw [← get_keys, keys_shift]
    simp only [List.contains_eq_mem, decide_eq_true_eq] at hi ⊢
    exact List.mem_map.2 ⟨i, hi, rfl⟩
  have hinr : ∀ c : Av, inB (keys T0) c = true → idsIn (get (shift (· + 1000) T0)) (c.ren (· + 1000)) := fun c =>
    Av.rec (motive_1 := fun c => inB (keys T0) c = true → idsIn (get (shift (· + 1000) T0)) (c.ren (· + 1000))) (motive_2 := fun cs => inBL (keys T0) cs = true → idsInL (get (shift (· + 1000) T0)) (renL (· + 1000) cs))
      (fun _ _ => trivial) (fun i _ h => hG0 i h) (fun i _ h => hG0 i h) (fun i _ _ _ h => hG0 i h) (fun i _ _ _ h => hG0 i h) (fun cs ih h => ih h) (fun cs ih h => ih h)
      (fun f a b iha ihb h => by simp only [inB, Bool.and_eq_true] at h; exact ⟨iha h.1, ihb h.2⟩) (fun i h => hG0 i h) (fun i _ h => hG0 i h) (fun _ => trivial) (fun _ => trivial) (fun _ => trivial)
      (fun c r ihc ihr h => by simp only [inBL, Bool.and_eq_true] at h; exact ⟨ihc h.1, ihr h.2⟩) c
  have hinrL : ∀ cs : List Av, inBL (keys T0) cs = true → idsInL (get (shift (· + 1000) T0)) (renL (· + 1000) cs) := by
    intro cs
    induction cs with
    | nil => intro _; trivial
    | cons c r ih => intro h; simp only [inBL, Bool.and_eq_true] at h; exact ⟨hinr c h.1, ih h.2⟩
  have hinrT : ∀ cs : List (Nat × Av), inBT (keys T0) cs = true → idsInT (get (shift (· + 1000) T0)) (renT (· + 1000) cs) := by
    intro cs
    induction cs with
    | nil => intro _; trivial
    | cons c r ih => obtain ⟨t, c⟩ := c; intro h; simp only [inBT, Bool.and_eq_true] at h; exact ⟨hinr c h.1, ih h.2⟩
  have hclT : closed (get (shift (· + 1000) T0)) := by
    intro i o hi
    have hm := get_mem _ i o hi
    rw [shift_map] at hm
    obtain ⟨e, he, hee⟩ := List.mem_map.1 hm
    simp only [Prod.mk.injEq] at hee
    rw [← hee.2]
    have := List.all_eq_true.1 c3 e he
    cases ho : e.2 with
    | box cs => rw [ho] at this; exact hinrL cs this
    | lp l => rw [ho] at this; exact hinrT l.tm this
    | _ => trivial
  have hdom : ∀ i, (hputs (get (shift (· + 1000) T0)) ups i).isSome = true → (keys ups).contains i = true := by intro i hi; rw [g1] at hi; exact get_keys.2 hi
  have hcok := hcon.call (backN M nm) hbig (fun i j hi hj e => injB_ok c5 i j (hdom i hi) (hdom j hj) e)
    (by intro c hc; exact idsInL_mem (hinrL vs c2) c hc) hclT nw
    (by
      intro e he
      by_cases hk : (keys (shift (· + 1000) T0)).contains e.1 = true
      · exact .inl (get_keys.1 hk)
      · refine .inr ?_
        rw [← hnw]
        simp only [List.mem_filter]
        exact ⟨List.mem_map.2 ⟨e, he, rfl⟩, by simpa using hk⟩) g2 g3
  have hargs : (renL (· + 1000) vs).map (Av.ren (backN M nm)) = vs := by
    rw [← renL_map, renL_ren]
    have : (fun i => backN M nm (i + 1000)) = id := funext hback
    rw [this, renL_id]
  rw [hargs] at hcok
  refine ⟨hcon.1, _, _, hcok, ?_, ?_, ?_, ?_⟩
  · refine tgets_of ?_
    intro e he
    rcases List.mem_append.1 he with he | he
    · obtain ⟨e1, h1, rfl⟩ := List.mem_map.1 he
      rw [shift_map] at h1
      obtain ⟨e0, h0, rfl⟩ := List.mem_map.1 h1
      simp only [hback]
      rw [Obj.ren_ren]
      have : (fun i => backN M nm (i + 1000)) = id := funext hback
      rw [this, Obj.ren_id]
      rw [← hT0] at h0 c1
      exact keeps_get c1 h0
    · obtain ⟨i, hi, rfl⟩ := List.mem_map.1 he
      exact nones_ok c6 _ (List.mem_map.2 ⟨i, hi, rfl⟩)
  · intro i
    rw [get_puts, shift_map]
  · have hk : ∀ l : List (Nat × Obj), (l.map fun e => backN M nm (e.1 + 1000)) = l.map (·.1) := fun l => List.map_congr_left fun e _ => hback e.1
    simp only [List.map_append, List.map_map, shift_map, Function.comp_def, hk, keys]
  · simp only [List.map_map, keys]
    rfl

theorem trCode_bounds (l : Lp) (h : (l.ps.toList.all fun p => decide (p < l.N)) = true) : ∀ p ∈ l.ps.toList, p < l.N := by
  intro p hp
  simpa using List.all_eq_true.1 h p hp

theorem callY_ok (hcall : CallSound P call) (hhas : CallHas P call) {vs : List Av} {hp hp' : List (Nat × Obj)} {v : Av} {tk uk : List Nat} (h : callY P call L vs hp = some (v, hp', tk, uk)) :
    ∃ T ups, CallOK P .yld vs T v ups ∧ tgets (get hp) T ∧ (∀ i, get hp' i = hputs (get hp) ups i) ∧ T.map (·.1) = tk ∧ ups.map (·.1) = uk := by
  unfold callY at h
  split at h
  case h_2 => cases h
  rename_i i args
  dsimp only at h
  generalize hb : 1000 * (i / 1000) = b at *
  have hbi : b ≤ i := by omega
  generalize hT0 : keeps hp (reach hp fuelR [i] []) = T0 at *
  split at h
  case h_2 => cases h
  rename_i l hl
  split at h
  case h_2 => cases h
  rename_i hready
  split at h
  case h_2 => cases h
  rename_i asg body h1 h2
  split at h
  case isFalse => cases h
  rename_i hc
  simp only [Bool.and_eq_true, beq_iff_eq] at hc
  obtain ⟨⟨⟨⟨c1, c2⟩, c3⟩, c4⟩, c5⟩ := hc
  split at h
  case h_2 => cases h
  rename_i s hs
  split at h
  case h_2 => cases h
  rename_i l1 hl1
  split at h
  case h_2 => cases h
  rename_i hr1
  split at h
  case h_2 => cases h
  rename_i e s2 hs2
  split at h
  case h_2 => cases h
  rename_i l2 hl2
  split at h
  case h_2 => cases h
  rename_i v0 l3 hend
  split at h
  case isFalse => cases h
  rename_i hk
  simp only [Bool.and_eq_true] at hk
  obtain ⟨⟨⟨k1, k2⟩, k3⟩, k4⟩ := hk
  simp only [Option.some.injEq, Prod.mk.injEq] at h
  obtain ⟨rfl, rfl, rfl, rfl⟩ := h
  generalize hT : shift (· - b) T0 = T at *
  generalize hhp3 : put s2.hp (i - b) (.lp l3) = hp3 at *
  generalize hks : reach hp3 fuelR (keys T) [] = ks at *
  generalize hups : keeps hp3 ks = ups at *
  generalize hnw : ((keys ups).filter fun k => !(keys T).contains k) = nw at *
  obtain ⟨g1, g2, g3, g4⟩ := endOK_ok k2
  have hDb : ∀ j, (get T j).isSome = true → (keys T).contains j = true := fun j hj => get_keys.2 hj
  have hge : ∀ j, (keys T0).contains j = true → b ≤ j := by
    intro j hj
    obtain ⟨o, ho⟩ := Option.isSome_iff_exists.1 (get_keys.1 hj)
    have := List.all_eq_true.1 c5 (j, o) (get_mem T0 j o ho)
    simp only [Bool.and_eq_true] at this
    exact Nat.le_of_ble_eq_true this.2
  have hfix : ∀ j, (keys T0).contains j = true → (fun j => j - b + b) j = j := fun j hj => by have := hge j hj; simp only; omega
  have hrcon : RCon P (i - b) (renL (· - b) args) T v0 ups := by
    refine RCon.of_code hl hready (by rw [trCode_strip asg _ h1]; exact h1) (by rw [trCode_strip body _ h2]; exact h2) (by rw [renL_map, List.length_map]; exact c1) (trCode_bounds l c2) g2 ?_
    refine wpc_mono asg _ ?_ (evC_ok (D := fun i => (get T i).isSome = true) hDb hcall hhas asg _ _ _ hs)
    rintro e' s' ⟨rfl, rfl⟩
    refine ⟨rfl, l1, hl1, hr1, wpc_mono body _ ?_ (evC_ok (D := fun i => (get T i).isSome = true) hDb hcall hhas body _ _ _ hs2)⟩
    rintro e' s' ⟨rfl, rfl⟩
    refine ⟨l2, l3, hl2, hend, ⟨[], ups⟩, ?_, fun j o ho => by rw [g1] at ho; exact ho⟩
    rw [hhp3, ← hups]
    exact keepOK_wk hDb (fun t v ht => by cases ht) (by rw [hups]; exact k1)
  have hG0 : ∀ j, (keys T0).contains j = true → (get T (j - b)).isSome = true := by
    intro j hj
    rw [← get_keys, ← hT, keys_shift]
    simp only [List.contains_eq_mem, decide_eq_true_eq] at hj ⊢
    exact List.mem_map.2 ⟨j, hj, rfl⟩
  have hinr : ∀ c : Av, inB (keys T0) c = true → idsIn (get T) (c.ren (· - b)) := fun c =>
    Av.rec (motive_1 := fun c => inB (keys T0) c = true → idsIn (get T) (c.ren (· - b))) (motive_2 := fun cs => inBL (keys T0) cs = true → idsInL (get T) (renL (· - b) cs))
      (fun _ _ => trivial) (fun i _ h => hG0 i h) (fun i _ h => hG0 i h) (fun i _ _ _ h => hG0 i h) (fun i _ _ _ h => hG0 i h) (fun cs ih h => ih h) (fun cs ih h => ih h)
      (fun f a b iha ihb h => by simp only [inB, Bool.and_eq_true] at h; exact ⟨iha h.1, ihb h.2⟩) (fun i h => hG0 i h) (fun i _ h => hG0 i h) (fun _ => trivial) (fun _ => trivial) (fun _ => trivial)
      (fun c r ihc ihr h => by simp only [inBL, Bool.and_eq_true] at h; exact ⟨ihc h.1, ihr h.2⟩) c
  have hinrL : ∀ cs : List Av, inBL (keys T0) cs = true → idsInL (get T) (renL (· - b) cs) := by
    intro cs
    induction cs with
    | nil => intro _; trivial
    | cons c r ih => intro h; simp only [inBL, Bool.and_eq_true] at h; exact ⟨hinr c h.1, ih h.2⟩
  have hinrT : ∀ cs : List (Nat × Av), inBT (keys T0) cs = true → idsInT (get T) (renT (· - b) cs) := by
    intro cs
    induction cs with
    | nil => intro _; trivial
    | cons c r ih => obtain ⟨t, c⟩ := c; intro h; simp only [inBT, Bool.and_eq_true] at h; exact ⟨hinr c h.1, ih h.2⟩
  have hclT : closed (get T) := by
    intro j o hj
    have hm := get_mem _ j o hj
    rw [← hT, shift_map] at hm
    obtain ⟨e, he, hee⟩ := List.mem_map.1 hm
    simp only [Prod.mk.injEq] at hee
    rw [← hee.2]
    have := List.all_eq_true.1 c5 e he
    simp only [Bool.and_eq_true] at this
    have := this.1
    cases ho : e.2 with
    | box cs => rw [ho] at this; exact hinrL cs this
    | lp l => rw [ho] at this; exact hinrT l.tm this
    | _ => trivial
  have hdom : ∀ j, (hputs (get T) ups j).isSome = true → (keys ups).contains j = true := by intro j hj; rw [g1] at hj; exact get_keys.2 hj
  have hcok := hrcon.call (· + b) ⟨l, hl⟩ (fun i j hi hj e => injB_ok k3 i j (hdom i hi) (hdom j hj) e) (by intro c hc; exact idsInL_mem (hinrL args c3) c hc) hclT nw
    (by
      intro e he
      by_cases hk : (keys T).contains e.1 = true
      · exact .inl (get_keys.1 hk)
      · refine .inr ?_
        rw [← hnw]
        simp only [List.mem_filter]
        exact ⟨List.mem_map.2 ⟨e, he, rfl⟩, by simpa using hk⟩) g2 g3
  have hargs : (renL (· - b) args).map (Av.ren (· + b)) = args := by
    rw [← renL_map, renL_ren]
    exact renL_fix hfix args c3
  have hib : i - b + b = i := by omega
  have hvr : v0.ren (· + b) = v0 := by
    unfold roundEnd at hend
    split at hend <;> first | (cases hend; done) | (simp only [Option.some.injEq, Prod.mk.injEq] at hend; rw [← hend.1]; rfl)
  rw [hargs, hvr] at hcok
  simp only [hib] at hcok
  refine ⟨_, _, hcok, ?_, ?_, ?_, ?_⟩
  · refine tgets_of ?_
    intro e he
    rcases List.mem_append.1 he with he | he
    · obtain ⟨e1, h1, rfl⟩ := List.mem_map.1 he
      rw [← hT, shift_map] at h1
      obtain ⟨e0, h0, rfl⟩ := List.mem_map.1 h1
      have hin := List.all_eq_true.1 c5 e0 h0
      simp only [Bool.and_eq_true] at hin
      have hble := Nat.le_of_ble_eq_true hin.2
      have e2 : e0.1 - b + b = e0.1 := by omega
      simp only [e2]
      rw [Obj.ren_ren, Obj.ren_fix hfix e0.2 hin.1]
      rw [← hT0] at h0 c4
      exact keeps_get c4 h0
    · obtain ⟨j, hj, rfl⟩ := List.mem_map.1 he
      exact nones_ok k4 _ (List.mem_map.2 ⟨j, hj, rfl⟩)
  · intro j
    rw [get_puts, shift_map]
  · have hkk : (T.map fun e => e.1 + b) = keys T0 := by
      rw [← hT, shift_map, List.map_map]
      simp only [keys]
      refine List.map_congr_left fun e he => ?_
      have hin := List.all_eq_true.1 c5 e he
      simp only [Bool.and_eq_true] at hin
      have hble := Nat.le_of_ble_eq_true hin.2
      simp only [Function.comp]
      omega
    simp only [List.map_append, List.map_map, Function.comp_def, hkk]
  · simp only [List.map_map, keys]
    rfl

theorem keeps_nil {α : Type} : ∀ l : List (Nat × α), keeps l [] = []
  | [] => rfl
  | e :: r => by simp [keeps, keeps_nil r]

theorem callF_ok {X : Ext} {K : Nat → Bool} (hX : ExtOK P X) : ∀ n, CallSound P (callF P X K L n) ∧ CallHas P (callF P X K L n)
  | 0 => ⟨(by intro c vs hp v hp' tk uk h; cases h), (by intro g vs hp r h; cases h)⟩
  | n + 1 => by
    obtain ⟨i1, i2⟩ := callF_ok hX n
    constructor
    · intro c vs hp v hp' tk uk h
      simp only [callF] at h
      split at h
      · rename_i f
        split at h
        · rename_i ds hds
          have := allD_ok hds
          subst this
          split at h
          · rename_i d hd
            simp only [Option.some.injEq, Prod.mk.injEq] at h
            obtain ⟨rfl, rfl, rfl, rfl⟩ := h
            exact ⟨[], [], hX f ds d hd, trivial, fun _ => rfl, rfl, rfl⟩
          · split at h
            · exact (callG_ok i1 i2 h).2
            split at h
            · rename_i v0 fh hev
              split at h
              · rename_i hpure
                simp only [Option.some.injEq, Prod.mk.injEq] at h
                obtain ⟨rfl, rfl, rfl, rfl⟩ := h
                have hend : endOK [] v0 (keeps fh []) = true := by
                  rw [keeps_nil]
                  simp only [endOK, keys, List.map_nil, nodupB, List.all_nil, Bool.and_self, Bool.true_and, Bool.and_true]
                  have hp := pureB_ok hpure
                  cases v0 with
                  | d x => rfl
                  | tup cs =>
                    show inBL [] cs = true
                    have hv' : ∀ c ∈ cs, ∃ x, c = .d x := hp
                    clear hp hpure hev
                    induction cs with
                    | nil => rfl
                    | cons c r ih =>
                      obtain ⟨x, rfl⟩ := hv' c List.mem_cons_self
                      simp only [inBL, inB, Bool.true_and]
                      exact ih fun c hc => hv' c (List.mem_cons_of_mem _ hc)
                  | _ => exact hp.elim
                have hcon := evF_con (ko := []) i1 i2 hev hend
                rw [keeps_nil] at hcon
                exact ⟨[], [], PCon.call hcon (pureB_ok hpure), trivial, fun _ => rfl, rfl, rfl⟩
              · exact (callG_ok i1 i2 h).2
            · cases h
        · exact (callG_ok i1 i2 h).2
      · exact callY_ok i1 i2 h
    · intro g vs hp r h hids
      simp only [callF] at h
      split at h
      · rename_i ds hds
        have := allD_ok hds
        subst this
        obtain ⟨i, hi, _⟩ := hids
        exfalso
        have : ∀ ds : List Dat, idsAL (ds.map Av.d) = [] := by
          intro ds
          induction ds with
          | nil => rfl
          | cons d r ih => simp [idsAL, idsA, ih]
        rw [this] at hi
        cases hi
      · obtain ⟨v, hp', tk, uk⟩ := r
        exact (callG_ok i1 i2 h).1

/-- what the evaluator finds of a call with data -/
theorem ev_pcon {X : Ext} {K : Nat → Bool} (hX : ExtOK P X) {n f : Nat} {ds : List Dat} {v : Av} {fh : List (Nat × Obj)} (h : evF P false (callF P X K L n) L f (ds.map .d) [] = some (v, fh)) (hv : pureB v = true) : PCon P f ds v := by
  have i := callF_ok (P := P) (L := L) (K := K) hX n
  have hend : endOK [] v (keeps fh []) = true := by
    rw [keeps_nil]
    simp only [endOK, keys, List.map_nil, nodupB, List.all_nil, Bool.and_self, Bool.true_and, Bool.and_true]
    have hp := pureB_ok hv
    cases v with
    | d x => rfl
    | tup cs =>
      show inBL [] cs = true
      have hv' : ∀ c ∈ cs, ∃ x, c = .d x := hp
      clear hp hv h
      induction cs with
      | nil => rfl
      | cons c r ih =>
        obtain ⟨x, rfl⟩ := hv' c List.mem_cons_self
        simp only [inBL, inB, Bool.true_and]
        exact ih fun c hc => hv' c (List.mem_cons_of_mem _ hc)
    | _ => exact hp.elim
  have hcon := evF_con (ko := []) i.1 i.2 h hend
  rw [keeps_nil] at hcon
  exact hcon
end
end Av

namespace Av
open Go
variable [Glb]

abbrev Str := List UInt8

mutual
inductive Val where
  | mk (kind int scale : Int) (text : Str) (list : List Val) (fields : List Fld)
inductive Fld where
  | mk (name : Str) (value : Val)
end

namespace Val
def kind : Val → Int | .mk k _ _ _ _ _ => k
def int : Val → Int | .mk _ i _ _ _ _ => i
def scale : Val → Int | .mk _ _ s _ _ _ => s
def text : Val → Str | .mk _ _ _ t _ _ => t
def list : Val → List Val | .mk _ _ _ _ l _ => l
def fields : Val → List Fld | .mk _ _ _ _ _ f => f
end Val
namespace Fld
def name : Fld → Str | .mk n _ => n
def value : Fld → Val | .mk _ v => v
end Fld

mutual
def encV : Val → Dat
  | .mk k i s t l f => .agg [.int .i64 k, .int .i64 i, .int .i64 s, .str t, .list 6 (encVs l), .list 7 (encFs f)]
def encVs : List Val → List Dat
  | [] => []
  | v :: r => encV v :: encVs r
def encF : Fld → Dat
  | .mk n v => .agg (.str n :: (encV v).cells)
def encFs : List Fld → List Dat
  | [] => []
  | v :: r => encF v :: encFs r
end
theorem encVs_map : ∀ l : List Val, encVs l = l.map encV
  | [] => by simp [encVs]
  | v :: r => by simp [encVs, encVs_map r]
theorem encFs_map : ∀ l : List Fld, encFs l = l.map encF
  | [] => by simp [encFs]
  | v :: r => by simp [encFs, encFs_map r]
theorem encV_eq (v : Val) : encV v = .agg [.int .i64 v.kind, .int .i64 v.int, .int .i64 v.scale, .str v.text, .list 6 (v.list.map encV), .list 7 (v.fields.map encF)] := by
  cases v; simp [encV, encVs_map, encFs_map, Val.kind, Val.int, Val.scale, Val.text, Val.list, Val.fields]
theorem encF_eq (f : Fld) : encF f = .agg [.str f.name, .int .i64 f.value.kind, .int .i64 f.value.int, .int .i64 f.value.scale, .str f.value.text, .list 6 (f.value.list.map encV), .list 7 (f.value.fields.map encF)] := by
  cases f; simp [encF, encV_eq, Fld.name, Fld.value, Dat.cells]

theorem nth_encV {xs : List Val} {k : Nat} (h : k < xs.length) : nth (xs.map encV) k = .agg [.int .i64 xs[k].kind, .int .i64 xs[k].int, .int .i64 xs[k].scale, .str xs[k].text, .list 6 (xs[k].list.map encV), .list 7 (xs[k].fields.map encF)] := by
  rw [nth_eq (by simpa using h), List.getElem_map, encV_eq]
theorem nth_encF {xs : List Fld} {k : Nat} (h : k < xs.length) : nth (xs.map encF) k = .agg [.str xs[k].name, .int .i64 xs[k].value.kind, .int .i64 xs[k].value.int, .int .i64 xs[k].value.scale, .str xs[k].value.text, .list 6 (xs[k].value.list.map encV), .list 7 (xs[k].value.fields.map encF)] := by
  rw [nth_eq (by simpa using h), List.getElem_map, encF_eq]

inductive Exp where
  | mk (op int : Int) (text : Str) (value : List Val) (args : List Exp)
namespace Exp
def op : Exp → Int | .mk o _ _ _ _ => o
def int : Exp → Int | .mk _ i _ _ _ => i
def text : Exp → Str | .mk _ _ t _ _ => t
def value : Exp → List Val | .mk _ _ _ v _ => v
def args : Exp → List Exp | .mk _ _ _ _ a => a
end Exp
mutual
def encE : Exp → Dat
  | .mk o i t v a => .agg [.int .i64 o, .int .i64 i, .str t, .list 6 (v.map encV), .list 5 (encEs a)]
def encEs : List Exp → List Dat
  | [] => []
  | v :: r => encE v :: encEs r
end
theorem encEs_map : ∀ l : List Exp, encEs l = l.map encE
  | [] => by simp [encEs]
  | v :: r => by simp [encEs, encEs_map r]
theorem encE_eq (e : Exp) : encE e = .agg [.int .i64 e.op, .int .i64 e.int, .str e.text, .list 6 (e.value.map encV), .list 5 (e.args.map encE)] := by
  cases e; simp [encE, encEs_map, Exp.op, Exp.int, Exp.text, Exp.value, Exp.args]

theorem nth_encE {xs : List Exp} {k : Nat} (h : k < xs.length) : nth (xs.map encE) k = .agg [.int .i64 xs[k].op, .int .i64 xs[k].int, .str xs[k].text, .list 6 (xs[k].value.map encV), .list 5 (xs[k].args.map encE)] := by
  rw [nth_eq (by simpa using h), List.getElem_map, encE_eq]

structure Rule where
  target : Str
  expr : Exp
def encR (r : Rule) : Dat := .agg [.str r.target, .int .i64 r.expr.op, .int .i64 r.expr.int, .str r.expr.text, .list 6 (r.expr.value.map encV), .list 5 (r.expr.args.map encE)]
theorem nth_encR {xs : List Rule} {k : Nat} (h : k < xs.length) : nth (xs.map encR) k = .agg [.str xs[k].target, .int .i64 xs[k].expr.op, .int .i64 xs[k].expr.int, .str xs[k].expr.text, .list 6 (xs[k].expr.value.map encV), .list 5 (xs[k].expr.args.map encE)] := by
  rw [nth_eq (by simpa using h), List.getElem_map, encR]
/-- a mapping: its rules -/
def encM (m : List Rule) : Dat := .agg [.list 6 (m.map encR)]

theorem canonL_encV (h : ∀ v : Val, (encV v).canon = encV v) (l : List Val) : canonL (l.map encV) = l.map encV := by
  rw [canonL_map, List.map_map]
  exact List.map_congr_left fun v _ => h v

mutual
theorem canon_encV : ∀ v : Val, (encV v).canon = encV v
  | .mk k i s t l f => by simp only [encV, Dat.canon, canonL, canon_encVs l, canon_encFs f]
theorem canon_encVs : ∀ l : List Val, canonL (encVs l) = encVs l
  | [] => by simp [encVs, canonL]
  | v :: r => by simp only [encVs, canonL, canon_encV v, canon_encVs r]
theorem canon_encF : ∀ f : Fld, (encF f).canon = encF f
  | .mk n v => by
    have := canon_encV v
    cases v with
    | mk k i s t l f =>
      simp only [encV, Dat.canon, canonL, Dat.agg.injEq, List.cons.injEq, true_and, and_true, Dat.list.injEq] at this
      simp only [encF, encV, Dat.cells, Dat.canon, canonL, this]
theorem canon_encFs : ∀ l : List Fld, canonL (encFs l) = encFs l
  | [] => by simp [encFs, canonL]
  | v :: r => by simp only [encFs, canonL, canon_encF v, canon_encFs r]
end
theorem canonL_vals (l : List Val) : canonL (l.map encV) = l.map encV := by rw [← encVs_map, canon_encVs]
theorem canonL_flds (l : List Fld) : canonL (l.map encF) = l.map encF := by rw [← encFs_map, canon_encFs]
mutual
theorem canon_encE : ∀ e : Exp, (encE e).canon = encE e
  | .mk o i t v a => by simp only [encE, Dat.canon, canonL, canonL_vals, canon_encEs a]
theorem canon_encEs : ∀ l : List Exp, canonL (encEs l) = encEs l
  | [] => by simp [encEs, canonL]
  | v :: r => by simp only [encEs, canonL, canon_encE v, canon_encEs r]
end
theorem canonL_exps (l : List Exp) : canonL (l.map encE) = l.map encE := by rw [← encEs_map, canon_encEs]
theorem canon_encR (r : Rule) : (encR r).canon = encR r := by simp only [encR, Dat.canon, canonL, canonL_vals, canonL_exps]
theorem canonL_rules (l : List Rule) : canonL (l.map encR) = l.map encR := by
  rw [canonL_map, List.map_map]
  exact List.map_congr_left fun r _ => canon_encR r
attribute [go_sem] canon_encV canon_encF canon_encE canon_encR canonL_vals canonL_flds canonL_exps canonL_rules
end Av

namespace Av
open Go
variable [Glb] [Rls]

/-- no memory behind it -/
def scalar : Dat → Bool
  | .bool _ | .int _ _ | .str _ => true
  | _ => false

theorem Rep.scalar {A A' : Nat → Prop} {w w' : World} {x : Dat} {u : Value} (h : Rep A w x u) (hs : scalar x = true) : Rep A' w' x u := by
  cases h <;> first | (simp [Av.scalar] at hs; done) | (constructor <;> assumption)

theorem hputs_nil (H : Heap) : hputs H [] = H := rfl

theorem PCon.borrow {P : Program} {f : Nat} {ds : List Dat} {r : Dat} (h : PCon P f (ds.map Dat.canon) (.d r)) (hr : scalar r = true) {args : List Av} {T : List (Nat × Option Obj)} {p : Prop} {u : List (Nat × Obj)}
    (hd : ∀ H : Heap, (∀ e ∈ T, H e.1 = e.2) → datumAll H args = some (p, ds, u)) (hp : p) : CallOK P f args T (.d r) [] := by
  intro β A w H vs hT hc hvs
  obtain ⟨A', st, hl, hrep, hA⟩ := datumAll_ok hc (hd H hT) hp (us := vs.toList) (by simpa using hvs.1) (fun i c v h1 h2 => hvs.2 i c v h1 (by simpa using h2))
  have hc0 : Core β A' w (get []) := ⟨(by intro i o hi; cases hi), (by intro i j o o' b hi; cases hi), (by intro i o b hi; cases hi), st.core.old, st.core.glob⟩
  refine .inl ⟨h.1, (h.2 β A' w vs hc0 ⟨by simp at hl ⊢; omega, ?_⟩).mono ?_⟩
  · intro i c v h1 h2
    rw [List.map_map, List.getElem?_map] at h1
    cases e : ds[i]? with
    | none => simp [e] at h1
    | some x =>
      simp only [e, Option.map_some, Option.some.injEq, Function.comp] at h1
      subst h1
      exact .d _ _ (hrep i x v e (by simpa using h2)).canon
  · rintro e w' ⟨v, β1, A1, rfl, hsince, hc1, hv⟩
    obtain ⟨s1, s2, s3, s4, s5, sl, s6, s7, s8⟩ := hsince
    dsimp only at s1 s2 s3 s4 s5 sl
    have hsame : ∀ b, b < w.heap.size → w'.heap[b]? = w.heap[b]? := fun b hb => s5 b hb (by intro i o hi; cases hi)
    have hst : Stp β A w H β A w' H := Stp.new hc s1 s2 s3 s4 hsame (fun _ h => h) (fun _ h => .inl h) (fun b hb => by have := hc.old b hb; omega)
    exact ⟨v, rfl, β, A, hst, .d _ _ (hv.of_d.scalar hr)⟩

def tOf (hp : List (Nat × Obj)) (vs : List Av) : List (Nat × Option Obj) := (vs.flatMap idsC).map fun i => (i, get hp i)

theorem datumAll_tOf {hp : List (Nat × Obj)} {vs : List Av} {H : Heap} (h : ∀ e ∈ tOf hp vs, H e.1 = e.2) : datumAll H vs = datumAll (get hp) vs :=
  datumAll_eq fun x hx => h (x, get hp x) (List.mem_map.2 ⟨x, hx, rfl⟩)

theorem tgets_tOf (hp : List (Nat × Obj)) (vs : List Av) : tgets (get hp) (tOf hp vs) := by
  refine tgets_of ?_
  intro e he
  obtain ⟨i, _, rfl⟩ := List.mem_map.1 he
  rfl

section
variable {P : Program} {st : St}
theorem wps_borrow {d : Option Nat} {f : Cal} {args : List Opd} {rs : Ss} {K : St → Prop} {f' : Nat} {vs : List Av} {p : Prop} {ds : List Dat} {u : List (Nat × Obj)} {r : Dat} (ht : target (get st.tm) f args = some (.fn f', vs))
    (hd : datumAll (get st.hp) vs = some (p, ds, u)) (hp : p) (hc : PCon P f' (ds.map Dat.canon) (.d r)) (hs : scalar r = true) (hr : wps P rs K (st.app d (.d r) [])) : wps P (.call d f args rs) K st :=
  wps_call ht (hc.borrow hs (fun H hH => by rw [datumAll_tOf hH]; exact hd) hp) (tgets_tOf _ _) hr
end
end Av

namespace Av
open Go
variable [Glb] [Rls]
attribute [go_sem] fillP

theorem hputs_cnt (i : Nat) (n m : Int) : ∀ j, (hputs (get [(i, .box [.d (.int .i64 n)])]) [(i, .box [.d (.int .i64 m)])] j).isSome = true → j = i := by
  intro j h
  simp only [hputs, upd, get] at h
  by_cases e : j = i
  · exact e
  · have e' : ¬ i = j := fun h => e h.symm
    simp [e, e'] at h

theorem Con.cnt {P : Program} {f : Nat} {ds : List Dat} {n m : Int} {r : Dat}
    (h : Con P f (ds.map .d ++ [.ref 1000 0]) [(1000, .box [.d (.int .i64 n)])] (.d r) [(1000, .box [.d (.int .i64 m)])]) (i : Nat) :
    CallOK P f (ds.map .d ++ [.ref i 0]) [(i, some (.box [.d (.int .i64 n)]))] (.d r) [(i, .box [.d (.int .i64 m)])] := by
  have hcl : ∀ a : Int, closed (get [(1000, .box [.d (.int .i64 a)])]) := by
    intro a
    refine closed_of ?_
    simp only [closedH, objIn, idsInL, idsIn, and_self]
  have := h.call (fun _ => i) ?_ ?_ ?_ (hcl n) [] ?_ ?_ ?_
  · have e : (ds.map Av.d).map (Av.ren fun _ => i) = ds.map Av.d := by
      rw [List.map_map]; exact List.map_congr_left fun x _ => by simp [Av.ren]
    simpa [Av.ren, Obj.ren, renL, e] using this
  · intro j hj
    simp only [get] at hj
    split at hj
    · rename_i e; subst e; decide
    · cases hj
  · intro a b ha hb _
    rw [hputs_cnt _ _ _ _ ha, hputs_cnt _ _ _ _ hb]
  · intro c hc
    rcases List.mem_append.1 hc with hc | hc
    · obtain ⟨x, _, rfl⟩ := List.mem_map.1 hc; trivial
    · simp only [List.mem_singleton] at hc; subst hc; rfl
  · intro e he
    simp only [List.mem_singleton] at he
    subst he
    exact .inl rfl
  · exact closed_puts (hcl_put n m)
  · trivial
where
  hcl_put (n m : Int) : closedH (get (puts [(1000, .box [.d (.int .i64 n)])] [(1000, .box [.d (.int .i64 m)])])) (puts [(1000, .box [.d (.int .i64 n)])] [(1000, .box [.d (.int .i64 m)])]) := by
    simp [puts, put, closedH, objIn, idsInL, idsIn]
end Av

namespace Go.Proofs
open Go Av

def tab0 : List Dat := (List.range 256).map fun c => .int .u8 (Lib.firstT c)
def tab1 : List Dat := (List.range 16).flatMap fun i => [.int .u8 (Lib.accLo i), .int .u8 (Lib.accHi i)]
def tab3 : List Dat := (List.range 20).map fun n => .int .u64 ((10 ^ n : Nat) : Int)
instance glbT : Glb := ⟨[(0, tab0), (1, tab1), (3, [.iface 440 .opq]), (4, [.iface 440 .opq]), (5, tab3)]⟩
theorem rl_D (n : Nat) : @Rls.rl rlsD n = (n == 1) := rfl
attribute [go_sem] rl_D
end Go.Proofs

namespace Go.Proofs
open Go Av
/-- manifold/expr.Equal -/
def ir21 : Ic :=
  .seq (.dn (.reg (
    .op (some 2) (.box (.t 0)) <|
    .op (some 3) (.box (.t 1)) <|
    .op (some 4) (.mov (.k (.bool false))) <|
    .nil)) [0, 1, 4]) <|
  .seq (.dn (.reg (
    .op (some 5) (.fa (.t 2) 0) <|
    .op (some 6) (.ld none (.t 5)) <|
    .op (some 7) (.fa (.t 3) 0) <|
    .op (some 8) (.ld none (.t 7)) <|
    .op (some 9) (.bin .eql (.t 6) (.t 8)) <|
    .op (some 10) (.mov (.t 9)) <|
    .sc 10 true (
      .op (some 11) (.fa (.t 2) 1) <|
      .op (some 12) (.ld none (.t 11)) <|
      .op (some 13) (.fa (.t 3) 1) <|
      .op (some 14) (.ld none (.t 13)) <|
      .op (some 15) (.bin .eql (.t 12) (.t 14)) <|
      .nil) (.t 15) 16 <|
    .op (some 17) (.mov (.t 16)) <|
    .sc 17 true (
      .op (some 18) (.fa (.t 2) 2) <|
      .op (some 19) (.ld none (.t 18)) <|
      .op (some 20) (.fa (.t 3) 2) <|
      .op (some 21) (.ld none (.t 20)) <|
      .op (some 22) (.bin .seq (.t 19) (.t 21)) <|
      .nil) (.t 22) 23 <|
    .op (some 24) (.mov (.t 23)) <|
    .sc 24 true (
      .op (some 25) (.fa (.t 2) 3) <|
      .op (some 26) (.ld none (.t 25)) <|
      .op (some 27) (.fa (.t 3) 3) <|
      .op (some 28) (.ld none (.t 27)) <|
      .call (some 29) (.fn 59) [(.t 26), (.t 28), (.k (.fn (.func 17) [] []))] <|
      .nil) (.t 29) 30 <|
    .op (some 31) (.mov (.t 30)) <|
    .sc 31 true (
      .op (some 32) (.fa (.t 2) 4) <|
      .op (some 33) (.ld none (.t 32)) <|
      .op (some 34) (.fa (.t 3) 4) <|
      .op (some 35) (.ld none (.t 34)) <|
      .call (some 36) (.fn 72) [(.t 33), (.t 35), (.k (.fn (.func 21) [] []))] <|
      .nil) (.t 36) 37 <|
    .op (some 4) (.mov (.t 37)) <|
    .nil)) [2, 3, 5, 6, 7, 8, 9, 10, 11, 12, 13, 14, 15, 16, 17, 18, 19, 20, 21, 22, 23, 24, 25, 26, 27, 28, 29, 30, 31, 32, 33, 34, 35, 36, 37]) <|
  .ret
theorem ok21 : FnOk Tryz.prog 21 38 ir21 [.tmp 4] := FnOk.of Tryz.func21 (by kernel_rfl) (by kernel_rfl) (by kernel_rfl) (by kernel_rfl)
/-- manifold/expr.Clone -/
def ir19 : Ic :=
  .seq (.dn (.reg (
    .op (some 1) (.box (.t 0)) <|
    .op (some 2) (.new [(.int .i64 0), (.int .i64 0), (.str []), (.nil 6), (.nil 5)]) <|
    .nil)) [0]) <|
  .seq (.dn (.reg (
    .op (some 8) (.fa (.t 1) 0) <|
    .op (some 9) (.ld none (.t 8)) <|
    .op (some 10) (.fa (.t 1) 1) <|
    .op (some 11) (.ld none (.t 10)) <|
    .op (some 12) (.fa (.t 1) 2) <|
    .op (some 13) (.ld none (.t 12)) <|
    .op (some 14) (.bld [(.int .i64 0), (.int .i64 0), (.str []), (.nil 6), (.nil 5)] [(0, 1, (.t 9)), (1, 1, (.t 11)), (2, 1, (.t 13))]) <|
    .op (some 3) (.new [(.int .i64 0), (.int .i64 0), (.str []), (.nil 6), (.nil 5)]) <|
    .op none (.sto (some 5) (.t 3) (.t 14)) <|
    .nil)) [8, 9, 10, 11, 12, 13, 14]) <|
  .seq (.seq (.dn (.reg (
    .op (some 15) (.fa (.t 1) 3) <|
    .op (some 16) (.ld none (.t 15)) <|
    .op (some 17) (.len (.t 16)) <|
    .op (some 18) (.mov (.k (.int .i64 0))) <|
    .nil)) [15]) <|
  .dn (.block 0 (
    .loop (
      .seq (.reg (
        .op (some 19) (.bin .lss (.t 18) (.t 17)) <|
        .nil)) <|
      .seq (.dn (.ite (.t 19) (.skip)
        (.exit 0)) [19]) <|
      .seq (.dn (.block 1 (
        .seq (.dn (.reg (
          .op (some 20) (.ixa true 6 (.t 16) (.t 18)) <|
          .op (some 21) (.ld (some 6) (.t 20)) <|
          .op (some 5) (.new [(.int .i64 0), (.int .i64 0), (.int .i64 0), (.str []), (.nil 6), (.nil 7)]) <|
          .op none (.sto (some 6) (.t 5) (.t 21)) <|
          .nil)) [20, 21]) <|
        .dn (.regd [(1, 3), (1, 4)] (
          .op (some 22) (.fa (.t 3) 3) <|
          .op (some 23) (.ld none (.t 22)) <|
          .op (some 24) (.ld (some 6) (.t 5)) <|
          .call (some 25) (.fn 54) [(.t 24)] <|
          .op (some 26) (.bls 6 [(.t 25)]) <|
          .op (some 27) (.app 6 (.t 23) (.t 26)) <|
          .op (some 28) (.fa (.t 3) 3) <|
          .op none (.sto none (.t 28) (.t 27)) <|
          .nil)) [5, 22, 23, 24, 25, 26, 27, 28])) [20, 21, 5, 22, 23, 24, 25, 26, 27, 28]) <|
      .dn (.reg (
        .op (some 29) (.bin .add (.t 18) (.k (.int .i64 1))) <|
        .op (some 18) (.mov (.t 29)) <|
        .nil)) [29]))) [16, 17, 18, 19, 20, 21, 5, 22, 23, 24, 25, 26, 27, 28, 29]) <|
  .seq (.seq (.dn (.reg (
    .op (some 30) (.fa (.t 1) 4) <|
    .op (some 31) (.ld none (.t 30)) <|
    .op (some 32) (.len (.t 31)) <|
    .op (some 33) (.mov (.k (.int .i64 0))) <|
    .nil)) [1, 30]) <|
  .dn (.block 2 (
    .loop (
      .seq (.reg (
        .op (some 34) (.bin .lss (.t 33) (.t 32)) <|
        .nil)) <|
      .seq (.dn (.ite (.t 34) (.skip)
        (.exit 2)) [34]) <|
      .seq (.dn (.block 3 (
        .seq (.dn (.reg (
          .op (some 35) (.ixa true 5 (.t 31) (.t 33)) <|
          .op (some 36) (.ld (some 5) (.t 35)) <|
          .op (some 7) (.new [(.int .i64 0), (.int .i64 0), (.str []), (.nil 6), (.nil 5)]) <|
          .op none (.sto (some 5) (.t 7) (.t 36)) <|
          .nil)) [35, 36]) <|
        .dn (.regd [(1, 3), (1, 4)] (
          .op (some 37) (.fa (.t 3) 4) <|
          .op (some 38) (.ld none (.t 37)) <|
          .op (some 39) (.ld (some 5) (.t 7)) <|
          .call (some 40) (.fn 19) [(.t 39)] <|
          .op (some 41) (.bls 5 [(.t 40)]) <|
          .op (some 42) (.app 5 (.t 38) (.t 41)) <|
          .op (some 43) (.fa (.t 3) 4) <|
          .op none (.sto none (.t 43) (.t 42)) <|
          .nil)) [7, 37, 38, 39, 40, 41, 42, 43])) [35, 36, 7, 37, 38, 39, 40, 41, 42, 43]) <|
      .dn (.reg (
        .op (some 44) (.bin .add (.t 33) (.k (.int .i64 1))) <|
        .op (some 33) (.mov (.t 44)) <|
        .nil)) [44]))) [31, 32, 33, 34, 35, 36, 7, 37, 38, 39, 40, 41, 42, 43, 44]) <|
  .seq (.dn (.reg (
    .op (some 45) (.ld (some 5) (.t 3)) <|
    .op none (.sto (some 5) (.t 2) (.t 45)) <|
    .nil)) [3, 45]) <|
  .ret
theorem ok19 : FnOk Tryz.prog 19 46 ir19 [.cell 2 (some 5)] := FnOk.of Tryz.func19 (by kernel_rfl) (by kernel_rfl) (by kernel_rfl) (by kernel_rfl)
/-- slices.EqualFunc   manifold/api.Expr,  manifold/api.Expr,manifold/api.Expr,manifold/api.Expr  -/
def ir72 : Ic :=
  .seq (.dn (.reg (
    .op (some 6) (.mov (.k (.bool false))) <|
    .nil)) [6]) <|
  .seq (.seq (.dn (.reg (
    .op (some 10) (.mov (.t 0)) <|
    .op (some 11) (.len (.t 10)) <|
    .op (some 12) (.mov (.t 1)) <|
    .op (some 13) (.len (.t 12)) <|
    .op (some 14) (.bin .neq (.t 11) (.t 13)) <|
    .nil)) [10, 11, 12, 13]) <|
  .dn (.ite (.t 14) (.seq (.dn (.reg (
      .op (some 6) (.mov (.k (.bool false))) <|
      .nil)) [0, 1, 2, 14]) <|
    .ret)
    (.skip)) [6, 14]) <|
  .seq (.seq (.dn (.reg (
    .op (some 15) (.mov (.t 0)) <|
    .op (some 16) (.len (.t 15)) <|
    .op (some 17) (.mov (.k (.int .i64 0))) <|
    .nil)) [0]) <|
  .dn (.block 0 (
    .loop (
      .seq (.reg (
        .op (some 18) (.bin .lss (.t 17) (.t 16)) <|
        .nil)) <|
      .seq (.dn (.ite (.t 18) (.skip)
        (.exit 0)) [18]) <|
      .seq (.dn (.block 1 (
        .seq (.dn (.reg (
          .op (some 19) (.mov (.t 17)) <|
          .op (some 20) (.ixa true 5 (.t 15) (.t 17)) <|
          .op (some 21) (.ld (some 5) (.t 20)) <|
          .op (some 8) (.new [(.int .i64 0), (.int .i64 0), (.str []), (.nil 6), (.nil 5)]) <|
          .op (some 7) (.mov (.t 19)) <|
          .op none (.sto (some 5) (.t 8) (.t 21)) <|
          .nil)) [19, 20, 21]) <|
        .seq (.dn (.reg (
          .op (some 22) (.mov (.t 1)) <|
          .op (some 23) (.mov (.t 7)) <|
          .op (some 24) (.ixa true 5 (.t 22) (.t 23)) <|
          .op (some 25) (.ld (some 5) (.t 24)) <|
          .op (some 9) (.new [(.int .i64 0), (.int .i64 0), (.str []), (.nil 6), (.nil 5)]) <|
          .op none (.sto (some 5) (.t 9) (.t 25)) <|
          .nil)) [7, 22, 23, 24, 25]) <|
        .seq (.dn (.reg (
          .op (some 26) (.mov (.t 2)) <|
          .op (some 27) (.ld (some 5) (.t 8)) <|
          .op (some 28) (.ld (some 5) (.t 9)) <|
          .call (some 29) (.dyn (.t 26)) [(.t 27), (.t 28)] <|
          .op (some 30) (.not (.t 29)) <|
          .nil)) [8, 9, 26, 27, 28, 29]) <|
        .dn (.ite (.t 30) (.seq (.dn (.reg (
            .op (some 6) (.mov (.k (.bool false))) <|
            .nil)) [1, 2, 15, 16, 17, 30]) <|
          .ret)
          (.skip)) [6, 30])) [19, 20, 21, 8, 7, 22, 23, 24, 25, 9, 26, 27, 28, 29, 30, 6]) <|
      .dn (.reg (
        .op (some 31) (.bin .add (.t 17) (.k (.int .i64 1))) <|
        .op (some 17) (.mov (.t 31)) <|
        .nil)) [31]))) [1, 2, 15, 16, 17, 18, 19, 20, 21, 8, 7, 22, 23, 24, 25, 9, 26, 27, 28, 29, 30, 6, 31]) <|
  .seq (.reg (
    .op (some 6) (.mov (.k (.bool true))) <|
    .nil)) <|
  .ret
theorem ok72 : FnOk Tryz.prog 72 32 ir72 [.tmp 6] := FnOk.of Tryz.func72 (by kernel_rfl) (by kernel_rfl) (by kernel_rfl) (by kernel_rfl)
/-- slices.EqualFunc   manifold/api.Value,  manifold/api.Value,manifold/api.Value,manifold/api.Value  -/
def ir59 : Ic :=
  .seq (.dn (.reg (
    .op (some 6) (.mov (.k (.bool false))) <|
    .nil)) [6]) <|
  .seq (.seq (.dn (.reg (
    .op (some 10) (.mov (.t 0)) <|
    .op (some 11) (.len (.t 10)) <|
    .op (some 12) (.mov (.t 1)) <|
    .op (some 13) (.len (.t 12)) <|
    .op (some 14) (.bin .neq (.t 11) (.t 13)) <|
    .nil)) [10, 11, 12, 13]) <|
  .dn (.ite (.t 14) (.seq (.dn (.reg (
      .op (some 6) (.mov (.k (.bool false))) <|
      .nil)) [0, 1, 2, 14]) <|
    .ret)
    (.skip)) [6, 14]) <|
  .seq (.seq (.dn (.reg (
    .op (some 15) (.mov (.t 0)) <|
    .op (some 16) (.len (.t 15)) <|
    .op (some 17) (.mov (.k (.int .i64 0))) <|
    .nil)) [0]) <|
  .dn (.block 0 (
    .loop (
      .seq (.reg (
        .op (some 18) (.bin .lss (.t 17) (.t 16)) <|
        .nil)) <|
      .seq (.dn (.ite (.t 18) (.skip)
        (.exit 0)) [18]) <|
      .seq (.dn (.block 1 (
        .seq (.dn (.reg (
          .op (some 19) (.mov (.t 17)) <|
          .op (some 20) (.ixa true 6 (.t 15) (.t 17)) <|
          .op (some 21) (.ld (some 6) (.t 20)) <|
          .op (some 8) (.new [(.int .i64 0), (.int .i64 0), (.int .i64 0), (.str []), (.nil 6), (.nil 7)]) <|
          .op (some 7) (.mov (.t 19)) <|
          .op none (.sto (some 6) (.t 8) (.t 21)) <|
          .nil)) [19, 20, 21]) <|
        .seq (.dn (.reg (
          .op (some 22) (.mov (.t 1)) <|
          .op (some 23) (.mov (.t 7)) <|
          .op (some 24) (.ixa true 6 (.t 22) (.t 23)) <|
          .op (some 25) (.ld (some 6) (.t 24)) <|
          .op (some 9) (.new [(.int .i64 0), (.int .i64 0), (.int .i64 0), (.str []), (.nil 6), (.nil 7)]) <|
          .op none (.sto (some 6) (.t 9) (.t 25)) <|
          .nil)) [7, 22, 23, 24, 25]) <|
        .seq (.dn (.reg (
          .op (some 26) (.mov (.t 2)) <|
          .op (some 27) (.ld (some 6) (.t 8)) <|
          .op (some 28) (.ld (some 6) (.t 9)) <|
          .call (some 29) (.dyn (.t 26)) [(.t 27), (.t 28)] <|
          .op (some 30) (.not (.t 29)) <|
          .nil)) [8, 9, 26, 27, 28, 29]) <|
        .dn (.ite (.t 30) (.seq (.dn (.reg (
            .op (some 6) (.mov (.k (.bool false))) <|
            .nil)) [1, 2, 15, 16, 17, 30]) <|
          .ret)
          (.skip)) [6, 30])) [19, 20, 21, 8, 7, 22, 23, 24, 25, 9, 26, 27, 28, 29, 30, 6]) <|
      .dn (.reg (
        .op (some 31) (.bin .add (.t 17) (.k (.int .i64 1))) <|
        .op (some 17) (.mov (.t 31)) <|
        .nil)) [31]))) [1, 2, 15, 16, 17, 18, 19, 20, 21, 8, 7, 22, 23, 24, 25, 9, 26, 27, 28, 29, 30, 6, 31]) <|
  .seq (.reg (
    .op (some 6) (.mov (.k (.bool true))) <|
    .nil)) <|
  .ret
theorem ok59 : FnOk Tryz.prog 59 32 ir59 [.tmp 6] := FnOk.of Tryz.func59 (by kernel_rfl) (by kernel_rfl) (by kernel_rfl) (by kernel_rfl)
/-- slices.EqualFunc   manifold/api.Type,  manifold/api.Type,manifold/api.Type,manifold/api.Type  -/
def ir56 : Ic :=
  .seq (.dn (.reg (
    .op (some 6) (.mov (.k (.bool false))) <|
    .nil)) [6]) <|
  .seq (.seq (.dn (.reg (
    .op (some 10) (.mov (.t 0)) <|
    .op (some 11) (.len (.t 10)) <|
    .op (some 12) (.mov (.t 1)) <|
    .op (some 13) (.len (.t 12)) <|
    .op (some 14) (.bin .neq (.t 11) (.t 13)) <|
    .nil)) [10, 11, 12, 13]) <|
  .dn (.ite (.t 14) (.seq (.dn (.reg (
      .op (some 6) (.mov (.k (.bool false))) <|
      .nil)) [0, 1, 2, 14]) <|
    .ret)
    (.skip)) [6, 14]) <|
  .seq (.seq (.dn (.reg (
    .op (some 15) (.mov (.t 0)) <|
    .op (some 16) (.len (.t 15)) <|
    .op (some 17) (.mov (.k (.int .i64 0))) <|
    .nil)) [0]) <|
  .dn (.block 0 (
    .loop (
      .seq (.reg (
        .op (some 18) (.bin .lss (.t 17) (.t 16)) <|
        .nil)) <|
      .seq (.dn (.ite (.t 18) (.skip)
        (.exit 0)) [18]) <|
      .seq (.dn (.block 1 (
        .seq (.dn (.reg (
          .op (some 19) (.mov (.t 17)) <|
          .op (some 20) (.ixa true 7 (.t 15) (.t 17)) <|
          .op (some 21) (.ld (some 7) (.t 20)) <|
          .op (some 8) (.new [(.int .i64 0), (.int .i64 0), (.int .i64 0), (.int .i64 0), (.nil 1), (.nil 7), (.nil 11)]) <|
          .op (some 7) (.mov (.t 19)) <|
          .op none (.sto (some 7) (.t 8) (.t 21)) <|
          .nil)) [19, 20, 21]) <|
        .seq (.dn (.reg (
          .op (some 22) (.mov (.t 1)) <|
          .op (some 23) (.mov (.t 7)) <|
          .op (some 24) (.ixa true 7 (.t 22) (.t 23)) <|
          .op (some 25) (.ld (some 7) (.t 24)) <|
          .op (some 9) (.new [(.int .i64 0), (.int .i64 0), (.int .i64 0), (.int .i64 0), (.nil 1), (.nil 7), (.nil 11)]) <|
          .op none (.sto (some 7) (.t 9) (.t 25)) <|
          .nil)) [7, 22, 23, 24, 25]) <|
        .seq (.dn (.reg (
          .op (some 26) (.mov (.t 2)) <|
          .op (some 27) (.ld (some 7) (.t 8)) <|
          .op (some 28) (.ld (some 7) (.t 9)) <|
          .call (some 29) (.dyn (.t 26)) [(.t 27), (.t 28)] <|
          .op (some 30) (.not (.t 29)) <|
          .nil)) [8, 9, 26, 27, 28, 29]) <|
        .dn (.ite (.t 30) (.seq (.dn (.reg (
            .op (some 6) (.mov (.k (.bool false))) <|
            .nil)) [1, 2, 15, 16, 17, 30]) <|
          .ret)
          (.skip)) [6, 30])) [19, 20, 21, 8, 7, 22, 23, 24, 25, 9, 26, 27, 28, 29, 30, 6]) <|
      .dn (.reg (
        .op (some 31) (.bin .add (.t 17) (.k (.int .i64 1))) <|
        .op (some 17) (.mov (.t 31)) <|
        .nil)) [31]))) [1, 2, 15, 16, 17, 18, 19, 20, 21, 8, 7, 22, 23, 24, 25, 9, 26, 27, 28, 29, 30, 6, 31]) <|
  .seq (.reg (
    .op (some 6) (.mov (.k (.bool true))) <|
    .nil)) <|
  .ret
theorem ok56 : FnOk Tryz.prog 56 32 ir56 [.tmp 6] := FnOk.of Tryz.func56 (by kernel_rfl) (by kernel_rfl) (by kernel_rfl) (by kernel_rfl)
/-- slices.EqualFunc   manifold/api.TypeField,  manifold/api.TypeField,manifold/api.TypeField,manifold/api.TypeField  -/
def ir57 : Ic :=
  .seq (.dn (.reg (
    .op (some 6) (.mov (.k (.bool false))) <|
    .nil)) [6]) <|
  .seq (.seq (.dn (.reg (
    .op (some 10) (.mov (.t 0)) <|
    .op (some 11) (.len (.t 10)) <|
    .op (some 12) (.mov (.t 1)) <|
    .op (some 13) (.len (.t 12)) <|
    .op (some 14) (.bin .neq (.t 11) (.t 13)) <|
    .nil)) [10, 11, 12, 13]) <|
  .dn (.ite (.t 14) (.seq (.dn (.reg (
      .op (some 6) (.mov (.k (.bool false))) <|
      .nil)) [0, 1, 2, 14]) <|
    .ret)
    (.skip)) [6, 14]) <|
  .seq (.seq (.dn (.reg (
    .op (some 15) (.mov (.t 0)) <|
    .op (some 16) (.len (.t 15)) <|
    .op (some 17) (.mov (.k (.int .i64 0))) <|
    .nil)) [0]) <|
  .dn (.block 0 (
    .loop (
      .seq (.reg (
        .op (some 18) (.bin .lss (.t 17) (.t 16)) <|
        .nil)) <|
      .seq (.dn (.ite (.t 18) (.skip)
        (.exit 0)) [18]) <|
      .seq (.dn (.block 1 (
        .seq (.dn (.reg (
          .op (some 19) (.mov (.t 17)) <|
          .op (some 20) (.ixa true 11 (.t 15) (.t 17)) <|
          .op (some 21) (.ld (some 11) (.t 20)) <|
          .op (some 8) (.new [(.int .i64 0), (.str []), (.int .i64 0), (.int .i64 0), (.int .i64 0), (.int .i64 0), (.int .i64 0), (.nil 1), (.nil 7), (.nil 11), (.nil 6)]) <|
          .op (some 7) (.mov (.t 19)) <|
          .op none (.sto (some 11) (.t 8) (.t 21)) <|
          .nil)) [19, 20, 21]) <|
        .seq (.dn (.reg (
          .op (some 22) (.mov (.t 1)) <|
          .op (some 23) (.mov (.t 7)) <|
          .op (some 24) (.ixa true 11 (.t 22) (.t 23)) <|
          .op (some 25) (.ld (some 11) (.t 24)) <|
          .op (some 9) (.new [(.int .i64 0), (.str []), (.int .i64 0), (.int .i64 0), (.int .i64 0), (.int .i64 0), (.int .i64 0), (.nil 1), (.nil 7), (.nil 11), (.nil 6)]) <|
          .op none (.sto (some 11) (.t 9) (.t 25)) <|
          .nil)) [7, 22, 23, 24, 25]) <|
        .seq (.dn (.reg (
          .op (some 26) (.mov (.t 2)) <|
          .op (some 27) (.ld (some 11) (.t 8)) <|
          .op (some 28) (.ld (some 11) (.t 9)) <|
          .call (some 29) (.dyn (.t 26)) [(.t 27), (.t 28)] <|
          .op (some 30) (.not (.t 29)) <|
          .nil)) [8, 9, 26, 27, 28, 29]) <|
        .dn (.ite (.t 30) (.seq (.dn (.reg (
            .op (some 6) (.mov (.k (.bool false))) <|
            .nil)) [1, 2, 15, 16, 17, 30]) <|
          .ret)
          (.skip)) [6, 30])) [19, 20, 21, 8, 7, 22, 23, 24, 25, 9, 26, 27, 28, 29, 30, 6]) <|
      .dn (.reg (
        .op (some 31) (.bin .add (.t 17) (.k (.int .i64 1))) <|
        .op (some 17) (.mov (.t 31)) <|
        .nil)) [31]))) [1, 2, 15, 16, 17, 18, 19, 20, 21, 8, 7, 22, 23, 24, 25, 9, 26, 27, 28, 29, 30, 6, 31]) <|
  .seq (.reg (
    .op (some 6) (.mov (.k (.bool true))) <|
    .nil)) <|
  .ret
theorem ok57 : FnOk Tryz.prog 57 32 ir57 [.tmp 6] := FnOk.of Tryz.func57 (by kernel_rfl) (by kernel_rfl) (by kernel_rfl) (by kernel_rfl)
/-- manifold/value.Equal -/
def ir17 : Ic :=
  .seq (.dn (.reg (
    .op (some 2) (.box (.t 0)) <|
    .op (some 3) (.box (.t 1)) <|
    .op (some 4) (.mov (.k (.bool false))) <|
    .nil)) [0, 1, 4]) <|
  .seq (.dn (.reg (
    .op (some 5) (.ld (some 6) (.t 2)) <|
    .op (some 6) (.ld (some 6) (.t 3)) <|
    .call (some 7) (.fn 61) [(.t 5), (.t 6)] <|
    .op (some 8) (.bin .eql (.t 7) (.k (.int .i64 0))) <|
    .op (some 4) (.mov (.t 8)) <|
    .nil)) [2, 3, 5, 6, 7, 8]) <|
  .ret
theorem ok17 : FnOk Tryz.prog 17 9 ir17 [.tmp 4] := FnOk.of Tryz.func17 (by kernel_rfl) (by kernel_rfl) (by kernel_rfl) (by kernel_rfl)
/-- manifold/value.Compare -/
def ir61 : Ic :=
  .seq (.dn (.reg (
    .op (some 2) (.box (.t 0)) <|
    .op (some 3) (.box (.t 1)) <|
    .op (some 4) (.mov (.k (.int .i64 0))) <|
    .nil)) [0, 1, 4]) <|
  .seq (.dn (.regd [(4, 6), (4, 8), (4, 11), (9, 11), (4, 13), (9, 13), (4, 16), (9, 16), (14, 16), (4, 18), (9, 18), (14, 18), (4, 21), (9, 21), (14, 21), (19, 21), (4, 23), (9, 23), (14, 23), (19, 23), (4, 26), (9, 26), (14, 26), (19, 26), (24, 26), (4, 28), (9, 28), (14, 28), (19, 28), (24, 28)] (
    .op (some 5) (.fa (.t 2) 0) <|
    .op (some 6) (.ld none (.t 5)) <|
    .op (some 7) (.fa (.t 3) 0) <|
    .op (some 8) (.ld none (.t 7)) <|
    .call (some 9) (.fn 137) [(.t 6), (.t 8)] <|
    .op (some 10) (.fa (.t 2) 1) <|
    .op (some 11) (.ld none (.t 10)) <|
    .op (some 12) (.fa (.t 3) 1) <|
    .op (some 13) (.ld none (.t 12)) <|
    .call (some 14) (.fn 137) [(.t 11), (.t 13)] <|
    .op (some 15) (.fa (.t 2) 2) <|
    .op (some 16) (.ld none (.t 15)) <|
    .op (some 17) (.fa (.t 3) 2) <|
    .op (some 18) (.ld none (.t 17)) <|
    .call (some 19) (.fn 137) [(.t 16), (.t 18)] <|
    .op (some 20) (.fa (.t 2) 3) <|
    .op (some 21) (.ld none (.t 20)) <|
    .op (some 22) (.fa (.t 3) 3) <|
    .op (some 23) (.ld none (.t 22)) <|
    .call (some 24) (.fn 107) [(.t 21), (.t 23)] <|
    .op (some 25) (.fa (.t 2) 4) <|
    .op (some 26) (.ld none (.t 25)) <|
    .op (some 27) (.fa (.t 3) 4) <|
    .op (some 28) (.ld none (.t 27)) <|
    .call (some 29) (.fn 138) [(.t 26), (.t 28), (.k (.fn (.func 61) [] []))] <|
    .op (some 30) (.fa (.t 2) 5) <|
    .op (some 31) (.ld none (.t 30)) <|
    .op (some 32) (.fa (.t 3) 5) <|
    .op (some 33) (.ld none (.t 32)) <|
    .call (some 34) (.fn 139) [(.t 31), (.t 33), (.k (.fn (.func 140) [] []))] <|
    .op (some 35) (.bls 1 [(.t 9), (.t 14), (.t 19), (.t 24), (.t 29), (.t 34)]) <|
    .call (some 36) (.fn 136) [(.t 35)] <|
    .op (some 4) (.mov (.t 36)) <|
    .nil)) [2, 3, 5, 6, 7, 8, 9, 10, 11, 12, 13, 14, 15, 16, 17, 18, 19, 20, 21, 22, 23, 24, 25, 26, 27, 28, 29, 30, 31, 32, 33, 34, 35, 36]) <|
  .ret
theorem ok61 : FnOk Tryz.prog 61 37 ir61 [.tmp 4] := FnOk.of Tryz.func61 (by kernel_rfl) (by kernel_rfl) (by kernel_rfl) (by kernel_rfl)
/-- manifold/value.Compare$1 -/
def ir140 : Ic :=
  .seq (.dn (.reg (
    .op (some 2) (.box (.t 0)) <|
    .op (some 3) (.box (.t 1)) <|
    .op (some 4) (.mov (.k (.int .i64 0))) <|
    .nil)) [0, 1, 4]) <|
  .seq (.dn (.regd [(4, 6), (4, 8)] (
    .op (some 5) (.fa (.t 2) 0) <|
    .op (some 6) (.ld none (.t 5)) <|
    .op (some 7) (.fa (.t 3) 0) <|
    .op (some 8) (.ld none (.t 7)) <|
    .call (some 9) (.fn 107) [(.t 6), (.t 8)] <|
    .op (some 10) (.fa (.t 2) 1) <|
    .op (some 11) (.ld (some 6) (.t 10)) <|
    .op (some 12) (.fa (.t 3) 1) <|
    .op (some 13) (.ld (some 6) (.t 12)) <|
    .call (some 14) (.fn 61) [(.t 11), (.t 13)] <|
    .op (some 15) (.bls 1 [(.t 9), (.t 14)]) <|
    .call (some 16) (.fn 136) [(.t 15)] <|
    .op (some 4) (.mov (.t 16)) <|
    .nil)) [2, 3, 5, 6, 7, 8, 9, 10, 11, 12, 13, 14, 15, 16]) <|
  .ret
theorem ok140 : FnOk Tryz.prog 140 17 ir140 [.tmp 4] := FnOk.of Tryz.func140 (by kernel_rfl) (by kernel_rfl) (by kernel_rfl) (by kernel_rfl)
/-- strings.Compare -/
def ir107 : Ic :=
  .seq (.dn (.reg (
    .op (some 4) (.mov (.k (.int .i64 0))) <|
    .nil)) [4]) <|
  .seq (.dn (.reg (
    .op (some 5) (.mov (.t 0)) <|
    .op (some 6) (.mov (.t 1)) <|
    .call (some 7) (.fn 206) [(.t 5), (.t 6)] <|
    .op (some 4) (.mov (.t 7)) <|
    .nil)) [0, 1, 5, 6, 7]) <|
  .ret
theorem ok107 : FnOk Tryz.prog 107 8 ir107 [.tmp 4] := FnOk.of Tryz.func107 (by kernel_rfl) (by kernel_rfl) (by kernel_rfl) (by kernel_rfl)
/-- cmp.Compare int  -/
def ir137 : Ic :=
  .seq (.dn (.reg (
    .op (some 4) (.mov (.k (.int .i64 0))) <|
    .nil)) [4]) <|
  .seq (.dn (.reg (
    .op (some 7) (.mov (.t 0)) <|
    .call (some 8) (.fn 223) [(.t 7)] <|
    .op (some 5) (.mov (.t 8)) <|
    .nil)) [7, 8]) <|
  .seq (.dn (.reg (
    .op (some 9) (.mov (.t 1)) <|
    .call (some 10) (.fn 223) [(.t 9)] <|
    .op (some 6) (.mov (.t 10)) <|
    .nil)) [9, 10]) <|
  .seq (.seq (.dn (.reg (
    .op (some 11) (.mov (.t 5)) <|
    .nil)) [5]) <|
  .dn (.ite (.t 11) (.seq (.seq (.dn (.reg (
      .op (some 12) (.mov (.t 6)) <|
      .nil)) [0, 1, 6, 11]) <|
    .dn (.ite (.t 12) (.seq (.dn (.reg (
        .op (some 4) (.mov (.k (.int .i64 0))) <|
        .nil)) [12]) <|
      .ret)
      (.skip)) [4, 12]) <|
    .seq (.reg (
      .op (some 4) (.mov (.k (.int .i64 (-1)))) <|
      .nil)) <|
    .ret)
    (.skip)) [4, 11]) <|
  .seq (.seq (.dn (.reg (
    .op (some 13) (.mov (.t 6)) <|
    .nil)) [6]) <|
  .dn (.ite (.t 13) (.seq (.dn (.reg (
      .op (some 4) (.mov (.k (.int .i64 1))) <|
      .nil)) [0, 1, 13]) <|
    .ret)
    (.skip)) [4, 13]) <|
  .seq (.seq (.dn (.reg (
    .op (some 14) (.mov (.t 0)) <|
    .op (some 15) (.mov (.t 1)) <|
    .op (some 16) (.bin .lss (.t 14) (.t 15)) <|
    .nil)) [14, 15]) <|
  .dn (.ite (.t 16) (.seq (.dn (.reg (
      .op (some 4) (.mov (.k (.int .i64 (-1)))) <|
      .nil)) [0, 1, 16]) <|
    .ret)
    (.skip)) [4, 16]) <|
  .seq (.seq (.dn (.reg (
    .op (some 17) (.mov (.t 0)) <|
    .op (some 18) (.mov (.t 1)) <|
    .op (some 19) (.bin .gtr (.t 17) (.t 18)) <|
    .nil)) [0, 1, 17, 18]) <|
  .dn (.ite (.t 19) (.seq (.dn (.reg (
      .op (some 4) (.mov (.k (.int .i64 1))) <|
      .nil)) [19]) <|
    .ret)
    (.skip)) [4, 19]) <|
  .seq (.reg (
    .op (some 4) (.mov (.k (.int .i64 0))) <|
    .nil)) <|
  .ret
theorem ok137 : FnOk Tryz.prog 137 20 ir137 [.tmp 4] := FnOk.of Tryz.func137 (by kernel_rfl) (by kernel_rfl) (by kernel_rfl) (by kernel_rfl)
/-- cmp.Or int  -/
def ir136 : Ic :=
  .seq (.dn (.reg (
    .op (some 2) (.mov (.k (.int .i64 0))) <|
    .nil)) [2]) <|
  .seq (.reg (
    .op (some 3) (.mov (.k (.int .i64 0))) <|
    .nil)) <|
  .seq (.seq (.dn (.reg (
    .op (some 6) (.mov (.t 0)) <|
    .op (some 7) (.len (.t 6)) <|
    .op (some 8) (.mov (.k (.int .i64 0))) <|
    .nil)) [0]) <|
  .dn (.block 0 (
    .loop (
      .seq (.reg (
        .op (some 9) (.bin .lss (.t 8) (.t 7)) <|
        .nil)) <|
      .seq (.dn (.ite (.t 9) (.skip)
        (.exit 0)) [9]) <|
      .seq (.dn (.block 1 (
        .seq (.dn (.reg (
          .op (some 10) (.ixa false 1 (.t 6) (.t 8)) <|
          .op (some 11) (.ld none (.t 10)) <|
          .op (some 5) (.mov (.t 11)) <|
          .nil)) [10, 11]) <|
        .seq (.dn (.reg (
          .op (some 12) (.mov (.t 5)) <|
          .op (some 13) (.mov (.t 3)) <|
          .op (some 14) (.bin .neq (.t 12) (.t 13)) <|
          .nil)) [12, 13]) <|
        .dn (.ite (.t 14) (.seq (.dn (.reg (
            .op (some 15) (.mov (.t 5)) <|
            .op (some 2) (.mov (.t 15)) <|
            .nil)) [3, 6, 7, 8, 5, 14, 15]) <|
          .ret)
          (.skip)) [2, 5, 14])) [10, 11, 5, 12, 13, 14, 15, 2]) <|
      .dn (.reg (
        .op (some 16) (.bin .add (.t 8) (.k (.int .i64 1))) <|
        .op (some 8) (.mov (.t 16)) <|
        .nil)) [16]))) [6, 7, 8, 9, 10, 11, 5, 12, 13, 14, 15, 2, 16]) <|
  .seq (.dn (.reg (
    .op (some 17) (.mov (.t 3)) <|
    .op (some 2) (.mov (.t 17)) <|
    .nil)) [3, 17]) <|
  .ret
theorem ok136 : FnOk Tryz.prog 136 18 ir136 [.tmp 2] := FnOk.of Tryz.func136 (by kernel_rfl) (by kernel_rfl) (by kernel_rfl) (by kernel_rfl)
/-- slices.CompareFunc   manifold/api.Value,  manifold/api.Value,manifold/api.Value,manifold/api.Value  -/
def ir138 : Ic :=
  .seq (.dn (.reg (
    .op (some 6) (.mov (.k (.int .i64 0))) <|
    .nil)) [6]) <|
  .seq (.seq (.reg (
    .op (some 11) (.mov (.t 0)) <|
    .op (some 12) (.len (.t 11)) <|
    .op (some 13) (.mov (.k (.int .i64 0))) <|
    .nil)) <|
  .dn (.block 0 (
    .loop (
      .seq (.reg (
        .op (some 14) (.bin .lss (.t 13) (.t 12)) <|
        .nil)) <|
      .seq (.dn (.ite (.t 14) (.skip)
        (.exit 0)) [14]) <|
      .seq (.dn (.block 1 (
        .seq (.dn (.reg (
          .op (some 15) (.mov (.t 13)) <|
          .op (some 16) (.ixa true 6 (.t 11) (.t 13)) <|
          .op (some 17) (.ld (some 6) (.t 16)) <|
          .op (some 8) (.new [(.int .i64 0), (.int .i64 0), (.int .i64 0), (.str []), (.nil 6), (.nil 7)]) <|
          .op (some 7) (.mov (.t 15)) <|
          .op none (.sto (some 6) (.t 8) (.t 17)) <|
          .nil)) [15, 16, 17]) <|
        .seq (.seq (.dn (.reg (
          .op (some 18) (.mov (.t 7)) <|
          .op (some 19) (.mov (.t 1)) <|
          .op (some 20) (.len (.t 19)) <|
          .op (some 21) (.bin .geq (.t 18) (.t 20)) <|
          .nil)) [18, 19, 20]) <|
        .dn (.ite (.t 21) (.seq (.dn (.reg (
            .op (some 6) (.mov (.k (.int .i64 1))) <|
            .nil)) [0, 1, 2, 11, 12, 13, 8, 7, 21]) <|
          .ret)
          (.skip)) [6, 21]) <|
        .seq (.dn (.reg (
          .op (some 22) (.mov (.t 1)) <|
          .op (some 23) (.mov (.t 7)) <|
          .op (some 24) (.ixa true 6 (.t 22) (.t 23)) <|
          .op (some 25) (.ld (some 6) (.t 24)) <|
          .op (some 9) (.new [(.int .i64 0), (.int .i64 0), (.int .i64 0), (.str []), (.nil 6), (.nil 7)]) <|
          .op none (.sto (some 6) (.t 9) (.t 25)) <|
          .nil)) [7, 22, 23, 24, 25]) <|
        .seq (.dn (.reg (
          .op (some 26) (.mov (.t 2)) <|
          .op (some 27) (.ld (some 6) (.t 8)) <|
          .op (some 28) (.ld (some 6) (.t 9)) <|
          .call (some 29) (.dyn (.t 26)) [(.t 27), (.t 28)] <|
          .op (some 10) (.mov (.t 29)) <|
          .nil)) [8, 9, 26, 27, 28, 29]) <|
        .seq (.dn (.reg (
          .op (some 30) (.mov (.t 10)) <|
          .op (some 31) (.bin .neq (.t 30) (.k (.int .i64 0))) <|
          .nil)) [30]) <|
        .dn (.ite (.t 31) (.seq (.dn (.reg (
            .op (some 32) (.mov (.t 10)) <|
            .op (some 6) (.mov (.t 32)) <|
            .nil)) [0, 1, 2, 11, 12, 13, 10, 31, 32]) <|
          .ret)
          (.skip)) [6, 10, 31])) [15, 16, 17, 8, 7, 18, 19, 20, 21, 6, 22, 23, 24, 25, 9, 26, 27, 28, 29, 10, 30, 31, 32]) <|
      .dn (.reg (
        .op (some 33) (.bin .add (.t 13) (.k (.int .i64 1))) <|
        .op (some 13) (.mov (.t 33)) <|
        .nil)) [33]))) [2, 11, 12, 13, 14, 15, 16, 17, 8, 7, 18, 19, 20, 21, 6, 22, 23, 24, 25, 9, 26, 27, 28, 29, 10, 30, 31, 32, 33]) <|
  .seq (.seq (.dn (.reg (
    .op (some 34) (.mov (.t 0)) <|
    .op (some 35) (.len (.t 34)) <|
    .op (some 36) (.mov (.t 1)) <|
    .op (some 37) (.len (.t 36)) <|
    .op (some 38) (.bin .lss (.t 35) (.t 37)) <|
    .nil)) [0, 1, 34, 35, 36, 37]) <|
  .dn (.ite (.t 38) (.seq (.dn (.reg (
      .op (some 6) (.mov (.k (.int .i64 (-1)))) <|
      .nil)) [38]) <|
    .ret)
    (.skip)) [6, 38]) <|
  .seq (.reg (
    .op (some 6) (.mov (.k (.int .i64 0))) <|
    .nil)) <|
  .ret
theorem ok138 : FnOk Tryz.prog 138 39 ir138 [.tmp 6] := FnOk.of Tryz.func138 (by kernel_rfl) (by kernel_rfl) (by kernel_rfl) (by kernel_rfl)
/-- slices.CompareFunc   manifold/api.Field,  manifold/api.Field,manifold/api.Field,manifold/api.Field  -/
def ir139 : Ic :=
  .seq (.dn (.reg (
    .op (some 6) (.mov (.k (.int .i64 0))) <|
    .nil)) [6]) <|
  .seq (.seq (.reg (
    .op (some 11) (.mov (.t 0)) <|
    .op (some 12) (.len (.t 11)) <|
    .op (some 13) (.mov (.k (.int .i64 0))) <|
    .nil)) <|
  .dn (.block 0 (
    .loop (
      .seq (.reg (
        .op (some 14) (.bin .lss (.t 13) (.t 12)) <|
        .nil)) <|
      .seq (.dn (.ite (.t 14) (.skip)
        (.exit 0)) [14]) <|
      .seq (.dn (.block 1 (
        .seq (.dn (.reg (
          .op (some 15) (.mov (.t 13)) <|
          .op (some 16) (.ixa true 7 (.t 11) (.t 13)) <|
          .op (some 17) (.ld (some 7) (.t 16)) <|
          .op (some 8) (.new [(.str []), (.int .i64 0), (.int .i64 0), (.int .i64 0), (.str []), (.nil 6), (.nil 7)]) <|
          .op (some 7) (.mov (.t 15)) <|
          .op none (.sto (some 7) (.t 8) (.t 17)) <|
          .nil)) [15, 16, 17]) <|
        .seq (.seq (.dn (.reg (
          .op (some 18) (.mov (.t 7)) <|
          .op (some 19) (.mov (.t 1)) <|
          .op (some 20) (.len (.t 19)) <|
          .op (some 21) (.bin .geq (.t 18) (.t 20)) <|
          .nil)) [18, 19, 20]) <|
        .dn (.ite (.t 21) (.seq (.dn (.reg (
            .op (some 6) (.mov (.k (.int .i64 1))) <|
            .nil)) [0, 1, 2, 11, 12, 13, 8, 7, 21]) <|
          .ret)
          (.skip)) [6, 21]) <|
        .seq (.dn (.reg (
          .op (some 22) (.mov (.t 1)) <|
          .op (some 23) (.mov (.t 7)) <|
          .op (some 24) (.ixa true 7 (.t 22) (.t 23)) <|
          .op (some 25) (.ld (some 7) (.t 24)) <|
          .op (some 9) (.new [(.str []), (.int .i64 0), (.int .i64 0), (.int .i64 0), (.str []), (.nil 6), (.nil 7)]) <|
          .op none (.sto (some 7) (.t 9) (.t 25)) <|
          .nil)) [7, 22, 23, 24, 25]) <|
        .seq (.dn (.reg (
          .op (some 26) (.mov (.t 2)) <|
          .op (some 27) (.ld (some 7) (.t 8)) <|
          .op (some 28) (.ld (some 7) (.t 9)) <|
          .call (some 29) (.dyn (.t 26)) [(.t 27), (.t 28)] <|
          .op (some 10) (.mov (.t 29)) <|
          .nil)) [8, 9, 26, 27, 28, 29]) <|
        .seq (.dn (.reg (
          .op (some 30) (.mov (.t 10)) <|
          .op (some 31) (.bin .neq (.t 30) (.k (.int .i64 0))) <|
          .nil)) [30]) <|
        .dn (.ite (.t 31) (.seq (.dn (.reg (
            .op (some 32) (.mov (.t 10)) <|
            .op (some 6) (.mov (.t 32)) <|
            .nil)) [0, 1, 2, 11, 12, 13, 10, 31, 32]) <|
          .ret)
          (.skip)) [6, 10, 31])) [15, 16, 17, 8, 7, 18, 19, 20, 21, 6, 22, 23, 24, 25, 9, 26, 27, 28, 29, 10, 30, 31, 32]) <|
      .dn (.reg (
        .op (some 33) (.bin .add (.t 13) (.k (.int .i64 1))) <|
        .op (some 13) (.mov (.t 33)) <|
        .nil)) [33]))) [2, 11, 12, 13, 14, 15, 16, 17, 8, 7, 18, 19, 20, 21, 6, 22, 23, 24, 25, 9, 26, 27, 28, 29, 10, 30, 31, 32, 33]) <|
  .seq (.seq (.dn (.reg (
    .op (some 34) (.mov (.t 0)) <|
    .op (some 35) (.len (.t 34)) <|
    .op (some 36) (.mov (.t 1)) <|
    .op (some 37) (.len (.t 36)) <|
    .op (some 38) (.bin .lss (.t 35) (.t 37)) <|
    .nil)) [0, 1, 34, 35, 36, 37]) <|
  .dn (.ite (.t 38) (.seq (.dn (.reg (
      .op (some 6) (.mov (.k (.int .i64 (-1)))) <|
      .nil)) [38]) <|
    .ret)
    (.skip)) [6, 38]) <|
  .seq (.reg (
    .op (some 6) (.mov (.k (.int .i64 0))) <|
    .nil)) <|
  .ret
theorem ok139 : FnOk Tryz.prog 139 39 ir139 [.tmp 6] := FnOk.of Tryz.func139 (by kernel_rfl) (by kernel_rfl) (by kernel_rfl) (by kernel_rfl)
/-- internal/bytealg.CompareString -/
def ir206 : Ic :=
  .seq (.dn (.reg (
    .op (some 4) (.mov (.k (.int .i64 0))) <|
    .nil)) [4]) <|
  .seq (.dn (.reg (
    .op (some 5) (.mov (.t 0)) <|
    .op (some 6) (.mov (.t 1)) <|
    .call (some 7) (.fn 287) [(.t 5), (.t 6)] <|
    .op (some 4) (.mov (.t 7)) <|
    .nil)) [0, 1, 5, 6, 7]) <|
  .ret
theorem ok206 : FnOk Tryz.prog 206 8 ir206 [.tmp 4] := FnOk.of Tryz.func206 (by kernel_rfl) (by kernel_rfl) (by kernel_rfl) (by kernel_rfl)
/-- cmp.isNaN int  -/
def ir223 : Ic :=
  .seq (.dn (.reg (
    .op (some 2) (.mov (.k (.bool false))) <|
    .nil)) [2]) <|
  .seq (.dn (.reg (
    .op (some 3) (.mov (.t 0)) <|
    .op (some 4) (.mov (.t 0)) <|
    .op (some 5) (.bin .neq (.t 3) (.t 4)) <|
    .op (some 2) (.mov (.t 5)) <|
    .nil)) [0, 3, 4, 5]) <|
  .ret
theorem ok223 : FnOk Tryz.prog 223 6 ir223 [.tmp 2] := FnOk.of Tryz.func223 (by kernel_rfl) (by kernel_rfl) (by kernel_rfl) (by kernel_rfl)
/-- manifold/value.Clone -/
def ir54 : Ic :=
  .seq (.dn (.reg (
    .op (some 1) (.box (.t 0)) <|
    .op (some 2) (.new [(.int .i64 0), (.int .i64 0), (.int .i64 0), (.str []), (.nil 6), (.nil 7)]) <|
    .nil)) [0]) <|
  .seq (.dn (.reg (
    .op (some 8) (.ld (some 6) (.t 1)) <|
    .op (some 3) (.new [(.int .i64 0), (.int .i64 0), (.int .i64 0), (.str []), (.nil 6), (.nil 7)]) <|
    .op none (.sto (some 6) (.t 3) (.t 8)) <|
    .nil)) [8]) <|
  .seq (.dn (.reg (
    .op (some 9) (.fa (.t 3) 4) <|
    .op none (.sto none (.t 9) (.k (.nil 6))) <|
    .op (some 10) (.fa (.t 3) 5) <|
    .op none (.sto none (.t 10) (.k (.nil 7))) <|
    .nil)) [9, 10]) <|
  .seq (.seq (.dn (.reg (
    .op (some 11) (.fa (.t 1) 4) <|
    .op (some 12) (.ld none (.t 11)) <|
    .op (some 13) (.len (.t 12)) <|
    .op (some 14) (.mov (.k (.int .i64 0))) <|
    .nil)) [11]) <|
  .dn (.block 0 (
    .loop (
      .seq (.reg (
        .op (some 15) (.bin .lss (.t 14) (.t 13)) <|
        .nil)) <|
      .seq (.dn (.ite (.t 15) (.skip)
        (.exit 0)) [15]) <|
      .seq (.dn (.block 1 (
        .seq (.dn (.reg (
          .op (some 16) (.ixa true 6 (.t 12) (.t 14)) <|
          .op (some 17) (.ld (some 6) (.t 16)) <|
          .op (some 5) (.new [(.int .i64 0), (.int .i64 0), (.int .i64 0), (.str []), (.nil 6), (.nil 7)]) <|
          .op none (.sto (some 6) (.t 5) (.t 17)) <|
          .nil)) [16, 17]) <|
        .dn (.regd [(1, 3), (1, 4)] (
          .op (some 18) (.fa (.t 3) 4) <|
          .op (some 19) (.ld none (.t 18)) <|
          .op (some 20) (.ld (some 6) (.t 5)) <|
          .call (some 21) (.fn 54) [(.t 20)] <|
          .op (some 22) (.bls 6 [(.t 21)]) <|
          .op (some 23) (.app 6 (.t 19) (.t 22)) <|
          .op (some 24) (.fa (.t 3) 4) <|
          .op none (.sto none (.t 24) (.t 23)) <|
          .nil)) [5, 18, 19, 20, 21, 22, 23, 24])) [16, 17, 5, 18, 19, 20, 21, 22, 23, 24]) <|
      .dn (.reg (
        .op (some 25) (.bin .add (.t 14) (.k (.int .i64 1))) <|
        .op (some 14) (.mov (.t 25)) <|
        .nil)) [25]))) [12, 13, 14, 15, 16, 17, 5, 18, 19, 20, 21, 22, 23, 24, 25]) <|
  .seq (.seq (.dn (.reg (
    .op (some 26) (.fa (.t 1) 5) <|
    .op (some 27) (.ld none (.t 26)) <|
    .op (some 28) (.len (.t 27)) <|
    .op (some 29) (.mov (.k (.int .i64 0))) <|
    .nil)) [1, 26]) <|
  .dn (.block 2 (
    .loop (
      .seq (.reg (
        .op (some 30) (.bin .lss (.t 29) (.t 28)) <|
        .nil)) <|
      .seq (.dn (.ite (.t 30) (.skip)
        (.exit 2)) [30]) <|
      .seq (.dn (.block 3 (
        .seq (.dn (.reg (
          .op (some 31) (.ixa true 7 (.t 27) (.t 29)) <|
          .op (some 32) (.ld (some 7) (.t 31)) <|
          .op (some 7) (.new [(.str []), (.int .i64 0), (.int .i64 0), (.int .i64 0), (.str []), (.nil 6), (.nil 7)]) <|
          .op none (.sto (some 7) (.t 7) (.t 32)) <|
          .nil)) [31, 32]) <|
        .dn (.regd [(1, 6), (3, 6), (1, 8)] (
          .op (some 33) (.fa (.t 3) 5) <|
          .op (some 34) (.ld none (.t 33)) <|
          .op (some 35) (.fa (.t 7) 0) <|
          .op (some 36) (.ld none (.t 35)) <|
          .op (some 37) (.fa (.t 7) 1) <|
          .op (some 38) (.ld (some 6) (.t 37)) <|
          .call (some 39) (.fn 54) [(.t 38)] <|
          .op (some 40) (.bld [(.str []), (.int .i64 0), (.int .i64 0), (.int .i64 0), (.str []), (.nil 6), (.nil 7)] [(0, 1, (.t 36)), (1, 6, (.t 39))]) <|
          .op (some 41) (.bls 7 [(.t 40)]) <|
          .op (some 42) (.app 7 (.t 34) (.t 41)) <|
          .op (some 43) (.fa (.t 3) 5) <|
          .op none (.sto none (.t 43) (.t 42)) <|
          .nil)) [7, 33, 34, 35, 36, 37, 38, 39, 40, 41, 42, 43])) [31, 32, 7, 33, 34, 35, 36, 37, 38, 39, 40, 41, 42, 43]) <|
      .dn (.reg (
        .op (some 44) (.bin .add (.t 29) (.k (.int .i64 1))) <|
        .op (some 29) (.mov (.t 44)) <|
        .nil)) [44]))) [27, 28, 29, 30, 31, 32, 7, 33, 34, 35, 36, 37, 38, 39, 40, 41, 42, 43, 44]) <|
  .seq (.dn (.reg (
    .op (some 45) (.ld (some 6) (.t 3)) <|
    .op none (.sto (some 6) (.t 2) (.t 45)) <|
    .nil)) [3, 45]) <|
  .ret
theorem ok54 : FnOk Tryz.prog 54 46 ir54 [.cell 2 (some 6)] := FnOk.of Tryz.func54 (by kernel_rfl) (by kernel_rfl) (by kernel_rfl) (by kernel_rfl)
end Go.Proofs

namespace Go.Proofs
open Go Av

theorem ext_run {P : Program} {f : Nat} {fn : Func} {e : Array Value → Sem Value} (hf : P.funcs[f]? = some fn) (hname : (fn.name == "runtime.NumGoroutine") = false) (hb : fn.body.isNone = true)
    (hn : (Extern.findNext fn).isNone = true) (he : Extern.find fn = some e) {vs : Array Value} {w w' : World} {u : Value} (hr : (e vs).run P w = .ok u w') : (callFunc f vs).run P w = .ok (.value u) w' := by
  have hn' : Extern.findNext fn = none := by simpa using hn
  have hb' : fn.body = none := by simpa using hb
  have hname' : fn.name ≠ "runtime.NumGoroutine" := by simpa using hname
  simp [callFunc, hf, hname', hb', hn', he, hr]

/-- how two strings are ordered -/
def cmpS (a b : Str) : Int := Extern.BytealgCompare.cmp ⟨a.toArray⟩ ⟨b.toArray⟩

theorem cmpS_range (a b : Str) : cmpS a b = -1 ∨ cmpS a b = 0 ∨ cmpS a b = 1 := by
  unfold cmpS Extern.BytealgCompare.cmp
  split
  · split <;> simp
  · split
    · simp
    · split <;> simp

theorem ext287 (a b : Str) : CallOK Tryz.prog 287 [.d (.str a), .d (.str b)] [] (.d (.int .i64 (cmpS a b))) [] := by
  intro β A w H vs _ hc hvs
  refine .inr ⟨.int .i64 (cmpS a b), w, ?_, β, A, Stp.refl hc, .d _ _ (.int _ _ ?_)⟩
  · obtain ⟨hl, hv⟩ := hvs
    have h2 : vs.size = 2 := by simpa using hl.symm
    obtain ⟨x, y, rfl⟩ : ∃ x y, vs = #[x, y] := by
      refine ⟨vs[0], vs[1], ?_⟩
      apply Array.ext
      · simp [h2]
      · intro i h1 h2'
        have : i = 0 ∨ i = 1 := by omega
        rcases this with rfl | rfl <;> rfl
    have hx := (hv 0 _ x rfl rfl).of_d
    have hy := (hv 1 _ y rfl rfl).of_d
    cases hx
    cases hy
    refine ext_run (e := Extern.BytealgCompare.compare) Tryz.func287 (by kernel_rfl) (by kernel_rfl) (by kernel_rfl) (by kernel_rfl) ?_
    rfl
  · rcases cmpS_range a b with h | h | h <;> rw [h] <;> decide
end Go.Proofs

namespace Go.Proofs
open Go Av

theorem walk223 (k : IntKind) (a : Int) : PCon Tryz.prog 223 [.int k a] (.d (.bool false)) := by
  refine ok223.pcon (Nat.le_of_ble_eq_true rfl) trivial ?_
  simp only [go_sem, ir223, Nat.reduceAdd, Nat.reduceEqDiff, Nat.reduceBEq, Nat.reduceLeDiff, reduceCtorEq, ↓reduceIte]
  simp

theorem walk206 (a b : Str) : PCon Tryz.prog 206 [.str a, .str b] (.d (.int .i64 (cmpS a b))) := by
  refine ok206.pcon (Nat.le_of_ble_eq_true rfl) trivial ?_
  simp only [go_sem, ir206, Nat.reduceAdd, Nat.reduceEqDiff, Nat.reduceBEq, Nat.reduceLeDiff, reduceCtorEq, ↓reduceIte]
  refine wps_call rfl (ext287 a b) trivial ?_
  simp only [go_sem, Nat.reduceAdd, Nat.reduceEqDiff, Nat.reduceBEq, Nat.reduceLeDiff, reduceCtorEq, ↓reduceIte]

theorem walk107 (a b : Str) : PCon Tryz.prog 107 [.str a, .str b] (.d (.int .i64 (cmpS a b))) := by
  refine ok107.pcon (Nat.le_of_ble_eq_true rfl) trivial ?_
  simp only [go_sem, ir107, Nat.reduceAdd, Nat.reduceEqDiff, Nat.reduceBEq, Nat.reduceLeDiff, reduceCtorEq, ↓reduceIte]
  refine wps_call rfl ((walk206 a b).call trivial) trivial ?_
  simp only [go_sem, Nat.reduceAdd, Nat.reduceEqDiff, Nat.reduceBEq, Nat.reduceLeDiff, reduceCtorEq, ↓reduceIte]

def cmpI (a b : Int) : Int := if a < b then -1 else if b < a then 1 else 0

theorem walk137 (a b : Int) : PCon Tryz.prog 137 [.int .i64 a, .int .i64 b] (.d (.int .i64 (cmpI a b))) := by
  refine ok137.pcon (Nat.le_of_ble_eq_true rfl) trivial ?_
  simp only [go_sem, ir137, Nat.reduceAdd, Nat.reduceEqDiff, Nat.reduceBEq, Nat.reduceLeDiff, reduceCtorEq, ↓reduceIte]
  refine wps_call rfl ((walk223 .i64 a).call trivial) trivial ?_
  simp only [go_sem, Nat.reduceAdd, Nat.reduceEqDiff, Nat.reduceBEq, Nat.reduceLeDiff, reduceCtorEq, ↓reduceIte]
  refine wps_call rfl ((walk223 .i64 b).call trivial) trivial ?_
  simp only [go_sem, Nat.reduceAdd, Nat.reduceEqDiff, Nat.reduceBEq, Nat.reduceLeDiff, reduceCtorEq, ↓reduceIte]
  refine ⟨fun h => ?_, fun h => ⟨fun h2 => ?_, fun h2 => ?_⟩⟩
  · simp only [decide_eq_true_eq] at h; simp [cmpI, h]
  · simp only [decide_eq_true_eq, decide_eq_false_iff_not] at h h2
    have : b < a := h2
    simp [cmpI, h, this]
  · simp only [decide_eq_false_iff_not] at h h2
    have : ¬ b < a := h2
    simp [cmpI, h, this]
end Go.Proofs

namespace Go.Proofs
open Go Av

def orI : List Int → Int
  | [] => 0
  | x :: r => if x = 0 then orI r else x

theorem orI_skip : ∀ (xs : List Int) (k : Nat), (∀ (j : Nat) (h : j < xs.length), j < k → xs[j] = 0) → orI xs = orI (xs.drop k)
  | [], k, _ => by simp
  | x :: r, 0, _ => rfl
  | x :: r, k + 1, h => by
    have h0 := h 0 (by simp) (by omega)
    simp only [List.getElem_cons_zero] at h0
    simp only [orI, h0, if_true, List.drop_succ_cons]
    exact orI_skip r k fun j hj hk => by have := h (j + 1) (by simpa using hj) (by omega); simpa using this

theorem walk136 (xs : List Int) (hl : xs.length ≤ 68719476736) : PCon Tryz.prog 136 [.list 1 (xs.map (.int .i64))] (.d (.int .i64 (orI xs))) := by
  refine ok136.pcon (Nat.le_of_ble_eq_true rfl) trivial ?_
  simp only [go_sem, ir136, Nat.reduceAdd, Nat.reduceEqDiff, Nat.reduceBEq, Nat.reduceLeDiff, reduceCtorEq, ↓reduceIte]
  refine wpc_loop (fun n s => ∃ k : Nat, k ≤ xs.length ∧ n = xs.length - k ∧ (∀ (j : Nat) (h : j < xs.length), j < k → xs[j] = 0) ∧
    s = ⟨[(3, .d (.int .i64 0)), (6, .d (.list 1 (xs.map (.int .i64)))), (7, .d (.int .i64 xs.length)), (8, .d (.int .i64 k))], []⟩) ?_ ?_
  · refine ⟨_, _, Wk.refl _, 0, Nat.zero_le _, rfl, by simp, ?_⟩
    simp
  · rintro n s ⟨k, hk, rfl, hinv, rfl⟩
    by_cases hlt : k < xs.length
    · have hx : nth (xs.map (Dat.int .i64)) k = .int .i64 xs[k] := by rw [nth_eq (by simpa using hlt)]; simp
      have hd : decide ((k : Int) < (xs.length : Int)) = true := by simp; omega
      simp only [go_sem, hx, hd, Int.toNat_natCast, Nat.reduceAdd, Nat.reduceEqDiff, Nat.reduceBEq, Nat.reduceLeDiff, reduceCtorEq, ↓reduceIte]
      refine ⟨by simp; omega, by simp, fun hne => ?_, fun heq => ?_⟩
      · simp only [bne_iff_ne, ne_eq] at hne
        rw [orI_skip xs k hinv, List.drop_eq_getElem_cons hlt]
        simp [orI, hne]
      · simp only [bne_eq_false_iff_eq] at heq
        simp only [go_sem, wrap64s k (by omega), Nat.reduceAdd, Nat.reduceEqDiff, Nat.reduceBEq, Nat.reduceLeDiff, reduceCtorEq, ↓reduceIte]
        refine ⟨xs.length - (k + 1), _, by omega, Wk.less ?_, k + 1, by omega, rfl, ?_, rfl⟩
        · simp only [go_sem, Nat.reduceAdd, Nat.reduceEqDiff, Nat.reduceBEq, Nat.reduceLeDiff, reduceCtorEq, ↓reduceIte]
        · intro j h1 hj
          by_cases e : j = k
          · subst e; exact heq
          · exact hinv j h1 (by omega)
    · have hd : decide ((k : Int) < (xs.length : Int)) = false := by simp; omega
      simp only [go_sem, hd, Nat.reduceAdd, Nat.reduceEqDiff, Nat.reduceBEq, Nat.reduceLeDiff, reduceCtorEq, ↓reduceIte]
      have : orI xs = 0 := by rw [orI_skip xs k hinv, List.drop_eq_nil_of_le (by omega)]; rfl
      rw [this]
end Go.Proofs

namespace Go.Proofs
open Go Av

def cmpL {α : Type} (f : α → α → Int) : List α → List α → Int
  | [], [] => 0
  | [], _ :: _ => -1
  | _ :: _, [] => 1
  | x :: xs, y :: ys => if f x y = 0 then cmpL f xs ys else f x y

theorem cmpL_skip {α : Type} {f : α → α → Int} : ∀ (xs ys : List α) (k : Nat), k ≤ xs.length → k ≤ ys.length → (∀ (j : Nat) (h1 : j < xs.length) (h2 : j < ys.length), j < k → f xs[j] ys[j] = 0) → cmpL f xs ys = cmpL f (xs.drop k) (ys.drop k)
  | xs, ys, 0, _, _, _ => by simp
  | x :: xs, y :: ys, k + 1, h1, h2, h => by
    have h0 := h 0 (by simp) (by simp) (by omega)
    simp only [List.getElem_cons_zero] at h0
    simp only [cmpL, h0, if_true, List.drop_succ_cons]
    exact cmpL_skip xs ys k (by simpa using h1) (by simpa using h2) fun j hj hj2 hk => by have := h (j + 1) (by simpa using hj) (by simpa using hj2) (by omega); simpa using this
  | [], _, k + 1, h1, _, _ => by simp at h1
  | _ :: _, [], k + 1, _, h2, _ => by simp at h2

theorem walk138 (xs ys : List Val) (f : Val → Val → Int) (g : Nat) (hl : xs.length ≤ 68719476736) (_hly : ys.length ≤ 68719476736)
    (h : ∀ x ∈ xs, ∀ y ∈ ys, CallOK Tryz.prog g [.d (encV x), .d (encV y)] [] (.d (.int .i64 (f x y))) []) :
    PCon Tryz.prog 138 [.list 6 (xs.map encV), .list 6 (ys.map encV), .fn (.func g) [] []] (.d (.int .i64 (cmpL f xs ys))) := by
  refine ok138.pcon (Nat.le_of_ble_eq_true rfl) trivial ?_
  simp only [go_sem, ir138, Nat.reduceAdd, Nat.reduceEqDiff, Nat.reduceBEq, Nat.reduceLeDiff, reduceCtorEq, ↓reduceIte]
  refine wpc_loop (fun n s => ∃ k : Nat, k ≤ xs.length ∧ k ≤ ys.length ∧ n = xs.length - k ∧ (∀ (j : Nat) (h1 : j < xs.length) (h2 : j < ys.length), j < k → f xs[j] ys[j] = 0) ∧
    s = ⟨[(0, .d (.list 6 (xs.map encV))), (1, .d (.list 6 (ys.map encV))), (2, .d (.fn (.func g) [] [])), (11, .d (.list 6 (xs.map encV))), (12, .d (.int .i64 xs.length)), (13, .d (.int .i64 k))], []⟩) ?_ ?_
  · refine ⟨_, _, Wk.refl _, 0, Nat.zero_le _, Nat.zero_le _, rfl, by simp, ?_⟩
    simp
  · rintro n s ⟨k, hk, hky, rfl, hinv, rfl⟩
    by_cases hlt : k < xs.length
    · have hx := nth_encV hlt
      have hd : decide ((k : Int) < (xs.length : Int)) = true := by simp; omega
      simp only [go_sem, hx, hd, Int.toNat_natCast, Nat.reduceAdd, Nat.reduceEqDiff, Nat.reduceBEq, Nat.reduceLeDiff, reduceCtorEq, ↓reduceIte]
      refine ⟨by simp; omega, fun hge => ?_, fun hge => ?_⟩
      · simp only [List.length_map, decide_eq_true_eq] at hge
        have hyk : k = ys.length := by omega
        rw [cmpL_skip xs ys k hk hky hinv, List.drop_eq_getElem_cons hlt, List.drop_eq_nil_of_le (show ys.length ≤ k by omega)]
        simp [cmpL]
      · simp only [List.length_map, decide_eq_false_iff_not] at hge
        have hlty : k < ys.length := by omega
        have hy := nth_encV hlty
        simp only [go_sem, hy, Int.toNat_natCast, Nat.reduceAdd, Nat.reduceEqDiff, Nat.reduceBEq, Nat.reduceLeDiff, reduceCtorEq, ↓reduceIte]
        have hc := h xs[k] (List.getElem_mem _) ys[k] (List.getElem_mem _)
        rw [encV_eq, encV_eq] at hc
        refine ⟨by simp; omega, wps_call rfl hc trivial ?_⟩
        simp only [go_sem, Nat.reduceAdd, Nat.reduceEqDiff, Nat.reduceBEq, Nat.reduceLeDiff, reduceCtorEq, ↓reduceIte]
        refine ⟨fun hne => ?_, fun heq => ?_⟩
        · simp only [bne_iff_ne, ne_eq] at hne
          rw [cmpL_skip xs ys k hk hky hinv, List.drop_eq_getElem_cons hlt, List.drop_eq_getElem_cons hlty]
          simp [cmpL, hne]
        · simp only [bne_eq_false_iff_eq] at heq
          simp only [go_sem, wrap64s k (by omega), Nat.reduceAdd, Nat.reduceEqDiff, Nat.reduceBEq, Nat.reduceLeDiff, reduceCtorEq, ↓reduceIte]
          refine ⟨xs.length - (k + 1), _, by omega, Wk.less ?_, k + 1, by omega, by omega, rfl, ?_, rfl⟩
          · simp only [go_sem, Nat.reduceAdd, Nat.reduceEqDiff, Nat.reduceBEq, Nat.reduceLeDiff, reduceCtorEq, ↓reduceIte]
          · intro j h1 h2 hj
            by_cases e : j = k
            · subst e; exact heq
            · exact hinv j h1 h2 (by omega)
    · have hd : decide ((k : Int) < (xs.length : Int)) = false := by simp; omega
      simp only [go_sem, hd, Nat.reduceAdd, Nat.reduceEqDiff, Nat.reduceBEq, Nat.reduceLeDiff, reduceCtorEq, ↓reduceIte]
      have e1 : xs.drop k = [] := List.drop_eq_nil_of_le (by omega)
      refine ⟨fun hs => ?_, fun hs => ?_⟩
      · simp only [List.length_map, decide_eq_true_eq] at hs
        rw [cmpL_skip xs ys k hk hky hinv, e1, List.drop_eq_getElem_cons (show k < ys.length by omega)]
        rfl
      · simp only [List.length_map, decide_eq_false_iff_not] at hs
        rw [cmpL_skip xs ys k hk hky hinv, e1, List.drop_eq_nil_of_le (show ys.length ≤ k by omega)]
        rfl
theorem walk139 (xs ys : List Fld) (f : Fld → Fld → Int) (g : Nat) (hl : xs.length ≤ 68719476736) (_hly : ys.length ≤ 68719476736)
    (h : ∀ x ∈ xs, ∀ y ∈ ys, CallOK Tryz.prog g [.d (encF x), .d (encF y)] [] (.d (.int .i64 (f x y))) []) :
    PCon Tryz.prog 139 [.list 7 (xs.map encF), .list 7 (ys.map encF), .fn (.func g) [] []] (.d (.int .i64 (cmpL f xs ys))) := by
  refine ok139.pcon (Nat.le_of_ble_eq_true rfl) trivial ?_
  simp only [go_sem, ir139, Nat.reduceAdd, Nat.reduceEqDiff, Nat.reduceBEq, Nat.reduceLeDiff, reduceCtorEq, ↓reduceIte]
  refine wpc_loop (fun n s => ∃ k : Nat, k ≤ xs.length ∧ k ≤ ys.length ∧ n = xs.length - k ∧ (∀ (j : Nat) (h1 : j < xs.length) (h2 : j < ys.length), j < k → f xs[j] ys[j] = 0) ∧
    s = ⟨[(0, .d (.list 7 (xs.map encF))), (1, .d (.list 7 (ys.map encF))), (2, .d (.fn (.func g) [] [])), (11, .d (.list 7 (xs.map encF))), (12, .d (.int .i64 xs.length)), (13, .d (.int .i64 k))], []⟩) ?_ ?_
  · refine ⟨_, _, Wk.refl _, 0, Nat.zero_le _, Nat.zero_le _, rfl, by simp, ?_⟩
    simp
  · rintro n s ⟨k, hk, hky, rfl, hinv, rfl⟩
    by_cases hlt : k < xs.length
    · have hx := nth_encF hlt
      have hd : decide ((k : Int) < (xs.length : Int)) = true := by simp; omega
      simp only [go_sem, hx, hd, Int.toNat_natCast, Nat.reduceAdd, Nat.reduceEqDiff, Nat.reduceBEq, Nat.reduceLeDiff, reduceCtorEq, ↓reduceIte]
      refine ⟨by simp; omega, fun hge => ?_, fun hge => ?_⟩
      · simp only [List.length_map, decide_eq_true_eq] at hge
        have hyk : k = ys.length := by omega
        rw [cmpL_skip xs ys k hk hky hinv, List.drop_eq_getElem_cons hlt, List.drop_eq_nil_of_le (show ys.length ≤ k by omega)]
        simp [cmpL]
      · simp only [List.length_map, decide_eq_false_iff_not] at hge
        have hlty : k < ys.length := by omega
        have hy := nth_encF hlty
        simp only [go_sem, hy, Int.toNat_natCast, Nat.reduceAdd, Nat.reduceEqDiff, Nat.reduceBEq, Nat.reduceLeDiff, reduceCtorEq, ↓reduceIte]
        have hc := h xs[k] (List.getElem_mem _) ys[k] (List.getElem_mem _)
        rw [encF_eq, encF_eq] at hc
        refine ⟨by simp; omega, wps_call rfl hc trivial ?_⟩
        simp only [go_sem, Nat.reduceAdd, Nat.reduceEqDiff, Nat.reduceBEq, Nat.reduceLeDiff, reduceCtorEq, ↓reduceIte]
        refine ⟨fun hne => ?_, fun heq => ?_⟩
        · simp only [bne_iff_ne, ne_eq] at hne
          rw [cmpL_skip xs ys k hk hky hinv, List.drop_eq_getElem_cons hlt, List.drop_eq_getElem_cons hlty]
          simp [cmpL, hne]
        · simp only [bne_eq_false_iff_eq] at heq
          simp only [go_sem, wrap64s k (by omega), Nat.reduceAdd, Nat.reduceEqDiff, Nat.reduceBEq, Nat.reduceLeDiff, reduceCtorEq, ↓reduceIte]
          refine ⟨xs.length - (k + 1), _, by omega, Wk.less ?_, k + 1, by omega, by omega, rfl, ?_, rfl⟩
          · simp only [go_sem, Nat.reduceAdd, Nat.reduceEqDiff, Nat.reduceBEq, Nat.reduceLeDiff, reduceCtorEq, ↓reduceIte]
          · intro j h1 h2 hj
            by_cases e : j = k
            · subst e; exact heq
            · exact hinv j h1 h2 (by omega)
    · have hd : decide ((k : Int) < (xs.length : Int)) = false := by simp; omega
      simp only [go_sem, hd, Nat.reduceAdd, Nat.reduceEqDiff, Nat.reduceBEq, Nat.reduceLeDiff, reduceCtorEq, ↓reduceIte]
      have e1 : xs.drop k = [] := List.drop_eq_nil_of_le (by omega)
      refine ⟨fun hs => ?_, fun hs => ?_⟩
      · simp only [List.length_map, decide_eq_true_eq] at hs
        rw [cmpL_skip xs ys k hk hky hinv, e1, List.drop_eq_getElem_cons (show k < ys.length by omega)]
        rfl
      · simp only [List.length_map, decide_eq_false_iff_not] at hs
        rw [cmpL_skip xs ys k hk hky hinv, e1, List.drop_eq_nil_of_le (show ys.length ≤ k by omega)]
        rfl
end Go.Proofs

namespace Go.Proofs
open Go Av

mutual
/-- no list is longer than memory bears -/
def okV : Val → Prop
  | .mk _ _ _ _ l f => l.length ≤ 68719476736 ∧ f.length ≤ 68719476736 ∧ okVs l ∧ okFs f
def okVs : List Val → Prop
  | [] => True
  | v :: r => okV v ∧ okVs r
def okF : Fld → Prop
  | .mk _ v => okV v
def okFs : List Fld → Prop
  | [] => True
  | v :: r => okF v ∧ okFs r
end
theorem okVs_mem : ∀ {l : List Val}, okVs l → ∀ x ∈ l, okV x
  | [], _, x, h => by cases h
  | v :: r, ho, x, h => by
    simp only [okVs] at ho
    rcases List.mem_cons.1 h with rfl | h
    · exact ho.1
    · exact okVs_mem ho.2 x h
theorem okFs_mem : ∀ {l : List Fld}, okFs l → ∀ x ∈ l, okF x
  | [], _, x, h => by cases h
  | v :: r, ho, x, h => by
    simp only [okFs] at ho
    rcases List.mem_cons.1 h with rfl | h
    · exact ho.1
    · exact okFs_mem ho.2 x h

mutual
def cmpV : Val → Val → Int
  | .mk k i s t l f, b => orI [cmpI k b.kind, cmpI i b.int, cmpI s b.scale, cmpS t b.text, cmpVs l b.list, cmpFs f b.fields]
def cmpVs : List Val → List Val → Int
  | [], [] => 0
  | [], _ :: _ => -1
  | _ :: _, [] => 1
  | x :: xs, y :: ys => if cmpV x y = 0 then cmpVs xs ys else cmpV x y
def cmpF : Fld → Fld → Int
  | .mk n v, g => orI [cmpS n g.name, cmpV v g.value]
def cmpFs : List Fld → List Fld → Int
  | [], [] => 0
  | [], _ :: _ => -1
  | _ :: _, [] => 1
  | x :: xs, y :: ys => if cmpF x y = 0 then cmpFs xs ys else cmpF x y
end
theorem cmpVs_eq : ∀ (xs ys : List Val), cmpVs xs ys = cmpL cmpV xs ys
  | [], [] => by simp [cmpVs, cmpL]
  | [], _ :: _ => by simp [cmpVs, cmpL]
  | _ :: _, [] => by simp [cmpVs, cmpL]
  | x :: xs, y :: ys => by simp [cmpVs, cmpL, cmpVs_eq xs ys]
theorem cmpFs_eq : ∀ (xs ys : List Fld), cmpFs xs ys = cmpL cmpF xs ys
  | [], [] => by simp [cmpFs, cmpL]
  | [], _ :: _ => by simp [cmpFs, cmpL]
  | _ :: _, [] => by simp [cmpFs, cmpL]
  | x :: xs, y :: ys => by simp [cmpFs, cmpL, cmpFs_eq xs ys]

theorem step140 (n n' : Str) (v v' : Val) (h : PCon Tryz.prog 61 [encV v, encV v'] (.d (.int .i64 (cmpV v v')))) :
    PCon Tryz.prog 140 [encF (.mk n v), encF (.mk n' v')] (.d (.int .i64 (cmpF (.mk n v) (.mk n' v')))) := by
  refine ok140.pcon (Nat.le_of_ble_eq_true rfl) trivial ?_
  rw [encF_eq, encF_eq]
  have hc := h.call trivial
  rw [encV_eq, encV_eq] at hc
  simp only [go_sem, ir140, Fld.name, Fld.value, Nat.reduceAdd, Nat.reduceEqDiff, Nat.reduceBEq, Nat.reduceLeDiff, reduceCtorEq, ↓reduceIte]
  refine wpsL_call rfl ((walk107 n n').call trivial) trivial ?_
  simp only [go_sem, Nat.reduceAdd, Nat.reduceEqDiff, Nat.reduceBEq, Nat.reduceLeDiff, reduceCtorEq, ↓reduceIte]
  refine wpsL_call rfl hc trivial ?_
  simp only [go_sem, Nat.reduceAdd, Nat.reduceEqDiff, Nat.reduceBEq, Nat.reduceLeDiff, reduceCtorEq, ↓reduceIte]
  refine ⟨by simp, wpsL_call rfl ((walk136 [cmpS n n', cmpV v v'] (by simp)).call trivial) trivial ?_⟩
  simp only [go_sem, Nat.reduceAdd, Nat.reduceEqDiff, Nat.reduceBEq, Nat.reduceLeDiff, reduceCtorEq, ↓reduceIte]
  exact ⟨rfl, by simp only [cmpF, Fld.name, Fld.value]⟩

theorem step61 (a b : Val) (ha : a.list.length ≤ 68719476736) (ha2 : a.fields.length ≤ 68719476736) (hb : b.list.length ≤ 68719476736) (hb2 : b.fields.length ≤ 68719476736)
    (h1 : ∀ x ∈ a.list, ∀ y ∈ b.list, CallOK Tryz.prog 61 [.d (encV x), .d (encV y)] [] (.d (.int .i64 (cmpV x y))) [])
    (h2 : ∀ x ∈ a.fields, ∀ y ∈ b.fields, CallOK Tryz.prog 140 [.d (encF x), .d (encF y)] [] (.d (.int .i64 (cmpF x y))) []) :
    PCon Tryz.prog 61 [encV a, encV b] (.d (.int .i64 (cmpV a b))) := by
  refine ok61.pcon (Nat.le_of_ble_eq_true rfl) trivial ?_
  rw [encV_eq, encV_eq]
  simp only [go_sem, ir61, Nat.reduceAdd, Nat.reduceEqDiff, Nat.reduceBEq, Nat.reduceLeDiff, reduceCtorEq, ↓reduceIte]
  refine wpsL_call rfl ((walk137 a.kind b.kind).call trivial) trivial ?_
  simp only [go_sem, Nat.reduceAdd, Nat.reduceEqDiff, Nat.reduceBEq, Nat.reduceLeDiff, reduceCtorEq, ↓reduceIte]
  refine wpsL_call rfl ((walk137 a.int b.int).call trivial) trivial ?_
  simp only [go_sem, Nat.reduceAdd, Nat.reduceEqDiff, Nat.reduceBEq, Nat.reduceLeDiff, reduceCtorEq, ↓reduceIte]
  refine wpsL_call rfl ((walk137 a.scale b.scale).call trivial) trivial ?_
  simp only [go_sem, Nat.reduceAdd, Nat.reduceEqDiff, Nat.reduceBEq, Nat.reduceLeDiff, reduceCtorEq, ↓reduceIte]
  refine wpsL_call rfl ((walk107 a.text b.text).call trivial) trivial ?_
  simp only [go_sem, Nat.reduceAdd, Nat.reduceEqDiff, Nat.reduceBEq, Nat.reduceLeDiff, reduceCtorEq, ↓reduceIte]
  refine wpsL_call rfl ((walk138 a.list b.list cmpV 61 ha hb h1).call trivial) trivial ?_
  simp only [go_sem, Nat.reduceAdd, Nat.reduceEqDiff, Nat.reduceBEq, Nat.reduceLeDiff, reduceCtorEq, ↓reduceIte]
  refine wpsL_call rfl ((walk139 a.fields b.fields cmpF 140 ha2 hb2 h2).call trivial) trivial ?_
  simp only [go_sem, Nat.reduceAdd, Nat.reduceEqDiff, Nat.reduceBEq, Nat.reduceLeDiff, reduceCtorEq, ↓reduceIte]
  refine ⟨by simp, wpsL_call rfl ((walk136 [cmpI a.kind b.kind, cmpI a.int b.int, cmpI a.scale b.scale, cmpS a.text b.text, cmpL cmpV a.list b.list, cmpL cmpF a.fields b.fields] (by simp)).call trivial) trivial ?_⟩
  simp only [go_sem, Nat.reduceAdd, Nat.reduceEqDiff, Nat.reduceBEq, Nat.reduceLeDiff, reduceCtorEq, ↓reduceIte]
  refine ⟨rfl, ?_⟩
  cases a
  simp only [cmpV, Val.kind, Val.int, Val.scale, Val.text, Val.list, Val.fields, cmpVs_eq, cmpFs_eq]

mutual
theorem walk61 : ∀ (a : Val), okV a → ∀ b, okV b → PCon Tryz.prog 61 [encV a, encV b] (.d (.int .i64 (cmpV a b)))
  | .mk k i s t l f, ha, b, hb => by
    simp only [okV] at ha
    obtain ⟨a1, a2, a3, a4⟩ := ha
    have hb' : b.list.length ≤ 68719476736 ∧ b.fields.length ≤ 68719476736 ∧ okVs b.list ∧ okFs b.fields := by cases b; simpa only [okV, Val.list, Val.fields] using hb
    exact step61 _ b a1 a2 hb'.1 hb'.2.1 (fun x hx y hy => (walkVs l a3 x hx y (okVs_mem hb'.2.2.1 y hy)).call trivial) (fun x hx y hy => (walkFs f a4 x hx y (okFs_mem hb'.2.2.2 y hy)).call trivial)
theorem walkVs : ∀ (l : List Val), okVs l → ∀ x ∈ l, ∀ b, okV b → PCon Tryz.prog 61 [encV x, encV b] (.d (.int .i64 (cmpV x b)))
  | [], _, x, h, _, _ => by cases h
  | v :: r, ho, x, h, b, hb => by
    simp only [okVs] at ho
    by_cases e : x = v
    · rw [e]; exact walk61 v ho.1 b hb
    · exact walkVs r ho.2 x ((List.mem_cons.1 h).resolve_left e) b hb
theorem walk140 : ∀ (a : Fld), okF a → ∀ b, okF b → PCon Tryz.prog 140 [encF a, encF b] (.d (.int .i64 (cmpF a b)))
  | .mk n v, ha, .mk n' v', hb => step140 n n' v v' (walk61 v (by simpa only [okF] using ha) v' (by simpa only [okF] using hb))
theorem walkFs : ∀ (l : List Fld), okFs l → ∀ x ∈ l, ∀ b, okF b → PCon Tryz.prog 140 [encF x, encF b] (.d (.int .i64 (cmpF x b)))
  | [], _, x, h, _, _ => by cases h
  | v :: r, ho, x, h, b, hb => by
    simp only [okFs] at ho
    by_cases e : x = v
    · rw [e]; exact walk140 v ho.1 b hb
    · exact walkFs r ho.2 x ((List.mem_cons.1 h).resolve_left e) b hb
end
end Go.Proofs

namespace Go.Proofs
open Go Av

def eqF {α : Type} (eq : α → α → Bool) (xs ys : List α) : Bool := xs.length == ys.length && (xs.zip ys).all fun p => eq p.1 p.2

theorem eqF_iff {α : Type} {eq : α → α → Bool} {xs ys : List α} (hl : xs.length = ys.length) : eqF eq xs ys = true ↔ ∀ (j : Nat) (h1 : j < xs.length) (h2 : j < ys.length), eq xs[j] ys[j] = true := by
  simp only [eqF, hl, beq_self_eq_true, Bool.true_and, List.all_eq_true]
  constructor
  · intro h j h1 h2
    have : (xs.zip ys)[j]? = some (xs[j], ys[j]) := by rw [List.getElem?_zip_eq_some]; simp [h1, h2]
    exact h _ (List.mem_of_getElem? this)
  · intro h p hp
    obtain ⟨j, hj⟩ := List.getElem?_of_mem hp
    rw [List.getElem?_zip_eq_some] at hj
    obtain ⟨h1, e1⟩ := List.getElem?_eq_some_iff.1 hj.1
    obtain ⟨h2, e2⟩ := List.getElem?_eq_some_iff.1 hj.2
    rw [← e1, ← e2]
    exact h j (by omega) (by omega)

theorem walk59 (xs ys : List Val) (eq : Val → Val → Bool) (g : Nat) (hl : xs.length ≤ 68719476736)
    (h : ∀ x ∈ xs, ∀ y ∈ ys, CallOK Tryz.prog g [.d (encV x), .d (encV y)] [] (.d (.bool (eq x y))) []) :
    PCon Tryz.prog 59 [.list 6 (xs.map encV), .list 6 (ys.map encV), .fn (.func g) [] []] (.d (.bool (eqF eq xs ys))) := by
  refine ok59.pcon (Nat.le_of_ble_eq_true rfl) trivial ?_
  simp only [go_sem, ir59, Nat.reduceAdd, Nat.reduceEqDiff, Nat.reduceBEq, Nat.reduceLeDiff, reduceCtorEq, ↓reduceIte]
  refine ⟨fun hne => ?_, fun heq => ?_⟩
  · simp only [List.length_map, bne_iff_ne, ne_eq, Int.ofNat_inj] at hne
    simp [eqF, hne]
  simp only [List.length_map, bne_eq_false_iff_eq, Int.ofNat_inj] at heq
  refine wpc_loop (fun n s => ∃ k : Nat, k ≤ xs.length ∧ n = xs.length - k ∧ (∀ (j : Nat) (h1 : j < xs.length) (h2 : j < ys.length), j < k → eq xs[j] ys[j] = true) ∧
    s = ⟨[(1, .d (.list 6 (ys.map encV))), (2, .d (.fn (.func g) [] [])), (15, .d (.list 6 (xs.map encV))), (16, .d (.int .i64 xs.length)), (17, .d (.int .i64 k))], []⟩) ?_ ?_
  · refine ⟨_, _, Wk.refl _, 0, Nat.zero_le _, rfl, by simp, ?_⟩
    simp
  · rintro n s ⟨k, hk, rfl, hinv, rfl⟩
    by_cases hlt : k < xs.length
    · have hlty : k < ys.length := by omega
      have hx := nth_encV hlt
      have hy := nth_encV hlty
      have hd : decide ((k : Int) < (xs.length : Int)) = true := by simp; omega
      simp only [go_sem, hx, hy, hd, Int.toNat_natCast, Nat.reduceAdd, Nat.reduceEqDiff, Nat.reduceBEq, Nat.reduceLeDiff, reduceCtorEq, ↓reduceIte]
      have hc := h xs[k] (List.getElem_mem _) ys[k] (List.getElem_mem _)
      rw [encV_eq, encV_eq] at hc
      refine ⟨by simp; omega, by simp; omega, wps_call rfl hc trivial ?_⟩
      simp only [go_sem, Nat.reduceAdd, Nat.reduceEqDiff, Nat.reduceBEq, Nat.reduceLeDiff, reduceCtorEq, ↓reduceIte]
      refine ⟨fun hne => ?_, fun heq' => ?_⟩
      · have : eqF eq xs ys = false := by
          cases h0 : eqF eq xs ys with
          | false => rfl
          | true => rw [(eqF_iff heq).1 h0 k hlt (by omega)] at hne; cases hne
        rw [this]
      · simp only [go_sem, wrap64s k (by omega), Nat.reduceAdd, Nat.reduceEqDiff, Nat.reduceBEq, Nat.reduceLeDiff, reduceCtorEq, ↓reduceIte]
        refine ⟨xs.length - (k + 1), _, by omega, Wk.less ?_, k + 1, by omega, rfl, ?_, rfl⟩
        · simp only [go_sem, Nat.reduceAdd, Nat.reduceEqDiff, Nat.reduceBEq, Nat.reduceLeDiff, reduceCtorEq, ↓reduceIte]
        · intro j h1 h2 hj
          by_cases e : j = k
          · subst e; simpa using heq'
          · exact hinv j h1 h2 (by omega)
    · have hd : decide ((k : Int) < (xs.length : Int)) = false := by simp; omega
      simp only [go_sem, hd, Nat.reduceAdd, Nat.reduceEqDiff, Nat.reduceBEq, Nat.reduceLeDiff, reduceCtorEq, ↓reduceIte]
      rw [(eqF_iff heq).2 fun j h1 h2 => hinv j h1 h2 (by omega)]

theorem walk72 (xs ys : List Exp) (eq : Exp → Exp → Bool) (g : Nat) (hl : xs.length ≤ 68719476736)
    (h : ∀ x ∈ xs, ∀ y ∈ ys, CallOK Tryz.prog g [.d (encE x), .d (encE y)] [] (.d (.bool (eq x y))) []) :
    PCon Tryz.prog 72 [.list 5 (xs.map encE), .list 5 (ys.map encE), .fn (.func g) [] []] (.d (.bool (eqF eq xs ys))) := by
  refine ok72.pcon (Nat.le_of_ble_eq_true rfl) trivial ?_
  simp only [go_sem, ir72, Nat.reduceAdd, Nat.reduceEqDiff, Nat.reduceBEq, Nat.reduceLeDiff, reduceCtorEq, ↓reduceIte]
  refine ⟨fun hne => ?_, fun heq => ?_⟩
  · simp only [List.length_map, bne_iff_ne, ne_eq, Int.ofNat_inj] at hne
    simp [eqF, hne]
  simp only [List.length_map, bne_eq_false_iff_eq, Int.ofNat_inj] at heq
  refine wpc_loop (fun n s => ∃ k : Nat, k ≤ xs.length ∧ n = xs.length - k ∧ (∀ (j : Nat) (h1 : j < xs.length) (h2 : j < ys.length), j < k → eq xs[j] ys[j] = true) ∧
    s = ⟨[(1, .d (.list 5 (ys.map encE))), (2, .d (.fn (.func g) [] [])), (15, .d (.list 5 (xs.map encE))), (16, .d (.int .i64 xs.length)), (17, .d (.int .i64 k))], []⟩) ?_ ?_
  · refine ⟨_, _, Wk.refl _, 0, Nat.zero_le _, rfl, by simp, ?_⟩
    simp
  · rintro n s ⟨k, hk, rfl, hinv, rfl⟩
    by_cases hlt : k < xs.length
    · have hlty : k < ys.length := by omega
      have hx := nth_encE hlt
      have hy := nth_encE hlty
      have hd : decide ((k : Int) < (xs.length : Int)) = true := by simp; omega
      simp only [go_sem, hx, hy, hd, Int.toNat_natCast, Nat.reduceAdd, Nat.reduceEqDiff, Nat.reduceBEq, Nat.reduceLeDiff, reduceCtorEq, ↓reduceIte]
      have hc := h xs[k] (List.getElem_mem _) ys[k] (List.getElem_mem _)
      rw [encE_eq, encE_eq] at hc
      refine ⟨by simp; omega, by simp; omega, wps_call rfl hc trivial ?_⟩
      simp only [go_sem, Nat.reduceAdd, Nat.reduceEqDiff, Nat.reduceBEq, Nat.reduceLeDiff, reduceCtorEq, ↓reduceIte]
      refine ⟨fun hne => ?_, fun heq' => ?_⟩
      · have : eqF eq xs ys = false := by
          cases h0 : eqF eq xs ys with
          | false => rfl
          | true => rw [(eqF_iff heq).1 h0 k hlt (by omega)] at hne; cases hne
        rw [this]
      · simp only [go_sem, wrap64s k (by omega), Nat.reduceAdd, Nat.reduceEqDiff, Nat.reduceBEq, Nat.reduceLeDiff, reduceCtorEq, ↓reduceIte]
        refine ⟨xs.length - (k + 1), _, by omega, Wk.less ?_, k + 1, by omega, rfl, ?_, rfl⟩
        · simp only [go_sem, Nat.reduceAdd, Nat.reduceEqDiff, Nat.reduceBEq, Nat.reduceLeDiff, reduceCtorEq, ↓reduceIte]
        · intro j h1 h2 hj
          by_cases e : j = k
          · subst e; simpa using heq'
          · exact hinv j h1 h2 (by omega)
    · have hd : decide ((k : Int) < (xs.length : Int)) = false := by simp; omega
      simp only [go_sem, hd, Nat.reduceAdd, Nat.reduceEqDiff, Nat.reduceBEq, Nat.reduceLeDiff, reduceCtorEq, ↓reduceIte]
      rw [(eqF_iff heq).2 fun j h1 h2 => hinv j h1 h2 (by omega)]

theorem walk17 (a b : Val) (ha : okV a) (hb : okV b) : PCon Tryz.prog 17 [encV a, encV b] (.d (.bool (cmpV a b == 0))) := by
  refine ok17.pcon (Nat.le_of_ble_eq_true rfl) trivial ?_
  have hc := (walk61 a ha b hb).call trivial
  rw [encV_eq, encV_eq] at hc
  rw [encV_eq, encV_eq]
  simp only [go_sem, ir17, Nat.reduceAdd, Nat.reduceEqDiff, Nat.reduceBEq, Nat.reduceLeDiff, reduceCtorEq, ↓reduceIte]
  refine wps_call rfl hc trivial ?_
  simp only [go_sem, Nat.reduceAdd, Nat.reduceEqDiff, Nat.reduceBEq, Nat.reduceLeDiff, reduceCtorEq, ↓reduceIte]
end Go.Proofs

namespace Go.Proofs
open Go Av

mutual
def okE : Exp → Prop
  | .mk _ _ _ v a => v.length ≤ 68719476736 ∧ a.length ≤ 68719476736 ∧ okVs v ∧ okEs a
def okEs : List Exp → Prop
  | [] => True
  | v :: r => okE v ∧ okEs r
end
theorem okEs_mem : ∀ {l : List Exp}, okEs l → ∀ x ∈ l, okE x
  | [], _, x, h => by cases h
  | v :: r, ho, x, h => by
    simp only [okEs] at ho
    rcases List.mem_cons.1 h with rfl | h
    · exact ho.1
    · exact okEs_mem ho.2 x h

mutual
def eqE : Exp → Exp → Bool
  | .mk o i t v a, b => o == b.op && i == b.int && t == b.text && eqF (fun x y => cmpV x y == 0) v b.value && eqEs a b.args
def eqEs : List Exp → List Exp → Bool
  | [], [] => true
  | x :: xs, y :: ys => eqE x y && eqEs xs ys
  | _, _ => false
end
theorem eqEs_eq : ∀ (xs ys : List Exp), eqEs xs ys = eqF eqE xs ys
  | [], [] => by simp [eqEs, eqF]
  | [], _ :: _ => by simp [eqEs, eqF]
  | _ :: _, [] => by simp [eqEs, eqF]
  | x :: xs, y :: ys => by
    have := eqEs_eq xs ys
    simp only [eqEs, eqF, List.length_cons, List.zip_cons_cons, List.all_cons, this]
    cases eqE x y <;> simp

theorem step21 (a b : Exp) (ha : a.value.length ≤ 68719476736) (ha2 : a.args.length ≤ 68719476736)
    (h1 : ∀ x ∈ a.value, ∀ y ∈ b.value, CallOK Tryz.prog 17 [.d (encV x), .d (encV y)] [] (.d (.bool (cmpV x y == 0))) [])
    (h2 : ∀ x ∈ a.args, ∀ y ∈ b.args, CallOK Tryz.prog 21 [.d (encE x), .d (encE y)] [] (.d (.bool (eqE x y))) []) :
    PCon Tryz.prog 21 [encE a, encE b] (.d (.bool (eqE a b))) := by
  refine ok21.pcon (Nat.le_of_ble_eq_true rfl) trivial ?_
  rw [encE_eq, encE_eq]
  simp only [go_sem, ir21, Nat.reduceAdd, Nat.reduceEqDiff, Nat.reduceBEq, Nat.reduceLeDiff, reduceCtorEq, ↓reduceIte]
  refine scQ_pure (a.int == b.int) (fun _ => ?_) ?_
  all_goals simp only [go_sem, Nat.reduceAdd, Nat.reduceEqDiff, Nat.reduceBEq, Nat.reduceLeDiff, reduceCtorEq, ↓reduceIte]
  refine scQ_pure (a.text == b.text) (fun _ => ?_) ?_
  all_goals simp only [go_sem, Nat.reduceAdd, Nat.reduceEqDiff, Nat.reduceBEq, Nat.reduceLeDiff, reduceCtorEq, ↓reduceIte]
  refine scQ_pure (eqF (fun x y => cmpV x y == 0) a.value b.value) (fun _ => ?_) ?_
  all_goals simp only [go_sem, Nat.reduceAdd, Nat.reduceEqDiff, Nat.reduceBEq, Nat.reduceLeDiff, reduceCtorEq, ↓reduceIte]
  · refine wps_call rfl ((walk59 a.value b.value _ 17 ha h1).call trivial) trivial ?_
    simp only [go_sem, Nat.reduceAdd, Nat.reduceEqDiff, Nat.reduceBEq, Nat.reduceLeDiff, reduceCtorEq, ↓reduceIte]
  refine scQ_pure (eqF eqE a.args b.args) (fun _ => ?_) ?_
  all_goals simp only [go_sem, Nat.reduceAdd, Nat.reduceEqDiff, Nat.reduceBEq, Nat.reduceLeDiff, reduceCtorEq, ↓reduceIte]
  · refine wps_call rfl ((walk72 a.args b.args _ 21 ha2 h2).call trivial) trivial ?_
    simp only [go_sem, Nat.reduceAdd, Nat.reduceEqDiff, Nat.reduceBEq, Nat.reduceLeDiff, reduceCtorEq, ↓reduceIte]
  · cases a
    simp only [eqE, Exp.op, Exp.int, Exp.text, Exp.value, Exp.args, eqEs_eq]

mutual
theorem walk21 : ∀ (a : Exp), okE a → ∀ b, okE b → PCon Tryz.prog 21 [encE a, encE b] (.d (.bool (eqE a b)))
  | .mk o i t v l, ha, b, hb => by
    simp only [okE] at ha
    obtain ⟨a1, a2, a3, a4⟩ := ha
    have hb' : okVs b.value ∧ okEs b.args := by cases b; simp only [okE] at hb; exact ⟨hb.2.2.1, hb.2.2.2⟩
    exact step21 _ b a1 a2 (fun x hx y hy => (walk17 x y (okVs_mem a3 x hx) (okVs_mem hb'.1 y hy)).call trivial) (fun x hx y hy => (walkEs l a4 x hx y (okEs_mem hb'.2 y hy)).call trivial)
theorem walkEs : ∀ (l : List Exp), okEs l → ∀ x ∈ l, ∀ b, okE b → PCon Tryz.prog 21 [encE x, encE b] (.d (.bool (eqE x b)))
  | [], _, x, h, _, _ => by cases h
  | v :: r, ho, x, h, b, hb => by
    simp only [okEs] at ho
    by_cases e : x = v
    · rw [e]; exact walk21 v ho.1 b hb
    · exact walkEs r ho.2 x ((List.mem_cons.1 h).resolve_left e) b hb
end

def eqR (a b : Rule) : Bool := a.target == b.target && eqE a.expr b.expr
def eqM (a b : List Rule) : Bool := eqF eqR a b
def okM (m : List Rule) : Prop := m.length ≤ 68719476736 ∧ ∀ r ∈ m, okE r.expr

end Go.Proofs

namespace Go.Proofs
open Go Av
mutual
/-- no list of arguments is longer than the bulk bears -/
def okN : Exp → Prop
  | .mk _ _ _ _ a => a.length ≤ 1048576 ∧ okNs a
def okNs : List Exp → Prop
  | [] => True
  | v :: r => okN v ∧ okNs r
end
theorem okNs_mem : ∀ {l : List Exp}, okNs l → ∀ x ∈ l, okN x
  | [], _, x, h => by cases h
  | v :: r, ho, x, h => by
    simp only [okNs] at ho
    rcases List.mem_cons.1 h with rfl | h
    · exact ho.1
    · exact okNs_mem ho.2 x h
theorem okN_args {e : Exp} (h : okN e) : e.args.length ≤ 1048576 ∧ ∀ x ∈ e.args, okN x := by
  cases e
  simp only [okN] at h
  exact ⟨h.1, okNs_mem h.2⟩

end Go.Proofs

namespace Go.Proofs
open Go Av

def idxB : List UInt8 → UInt8 → Nat → Int
  | [], _, _ => -1
  | b :: l, c, k => if b == c then (k : Int) else idxB l c (k + 1)

theorem idxB_eq (c : UInt8) : ∀ (l : List UInt8) (k : Nat), idxB l c k = if Lib.indexByte l c = -1 then -1 else Lib.indexByte l c + k
  | [], k => rfl
  | b :: l, k => by
    rw [idxB, Lib.indexByte, idxB_eq c l (k + 1)]
    have hge := Lib.indexByte_ge l c
    by_cases h : (b == c) = true
    · simp [h]
    · simp only [h, Bool.false_eq_true, ↓reduceIte, beq_iff_eq]
      by_cases h2 : Lib.indexByte l c = -1
      · simp [h2]
      · simp only [h2, ↓reduceIte]
        rw [if_neg (by omega)]
        omega
theorem idxB_le (c : UInt8) : ∀ (l : List UInt8) (k : Nat), -1 ≤ idxB l c k ∧ idxB l c k ≤ (l.length + k : Nat)
  | [], k => by simp only [idxB]; omega
  | b :: l, k => by
    have := idxB_le c l (k + 1)
    simp only [idxB, List.length_cons]
    split
    · omega
    · omega

theorem ext402 (s : Str) (c : Int) : CallOK Tryz.prog 402 [.d (.str s), .d (.int .u8 c)] [] (.d (.int .i64 (idxB s c.toNat.toUInt8 0))) [] := by
  intro β A w H vs _ hc hvs
  obtain ⟨hl, hv⟩ := hvs
  have h2 : vs.size = 2 := by simpa using hl.symm
  obtain ⟨x, y, rfl⟩ : ∃ x y, vs = #[x, y] := by
    refine ⟨vs[0], vs[1], ?_⟩
    apply Array.ext
    · simp [h2]
    · intro i h1 h2'
      have : i = 0 ∨ i = 1 := by omega
      rcases this with rfl | rfl <;> rfl
  have hx := (hv 0 _ x rfl rfl).of_d
  have hy := (hv 1 _ y rfl rfl).of_d
  cases hx with
  | str _ hs =>
    cases hy
    have hle := idxB_le c.toNat.toUInt8 s 0
    refine .inr ⟨.int .i64 (idxB s c.toNat.toUInt8 0), w, ?_, β, A, Stp.refl hc, .d _ _ (.int _ _ ?_)⟩
    · refine ext_run (e := Extern.BytealgIndexByte.indexByte) Tryz.func402 (by kernel_rfl) (by kernel_rfl) (by kernel_rfl) (by kernel_rfl) ?_
      rw [Lib.run_indexByteString, idxB_eq]
      congr 2
      show Lib.indexByte s _ = _
      have hge := Lib.indexByte_ge s c.toNat.toUInt8
      by_cases h : Lib.indexByte s c.toNat.toUInt8 = -1
      · simp [h]
      · simp [h]
    · have e1 : IntKind.i64.min = -9223372036854775808 := by decide
      have e2 : IntKind.i64.max = 9223372036854775807 := by decide
      rw [e1, e2]
      omega

def X1 : Ext := fun f ds => match f, ds with
  | 287, [.str a, .str b] => some (.d (.int .i64 (Extern.BytealgCompare.cmp ⟨a.toArray⟩ ⟨b.toArray⟩)))
  | 402, [.str s, .int .u8 c] => some (.d (.int .i64 (idxB s c.toNat.toUInt8 0)))
  | _, _ => none
theorem X1_ok : ExtOK Tryz.prog X1 := by
  intro f ds d h
  unfold X1 at h
  split at h
  · cases h; exact ext287 _ _
  · cases h; exact ext402 _ _
  · cases h
def K1 (f : Nat) : Bool := f == 55
end Go.Proofs

namespace Go.Proofs
open Go Av

mutual
def datEq : Dat → Dat → Bool
  | .bool a, .bool b => a == b
  | .int k a, .int l b => decide (k = l) && a == b
  | .str a, .str b => a == b
  | .nil a, .nil b => a == b
  | .list a xs, .list b ys => a == b && datEqs xs ys
  | .agg xs, .agg ys => datEqs xs ys
  | .nilIface, .nilIface => true
  | _, _ => false
def datEqs : List Dat → List Dat → Bool
  | [], [] => true
  | x :: xs, y :: ys => datEq x y && datEqs xs ys
  | _, _ => false
end
mutual
theorem datEq_eq : ∀ (a b : Dat), datEq a b = true → a = b
  | .bool a, .bool b, h => by simp only [datEq, beq_iff_eq] at h; rw [h]
  | .int k a, .int l b, h => by simp only [datEq, Bool.and_eq_true, decide_eq_true_eq, beq_iff_eq] at h; rw [h.1, h.2]
  | .str a, .str b, h => by simp only [datEq, beq_iff_eq] at h; rw [h]
  | .nil a, .nil b, h => by simp only [datEq, beq_iff_eq] at h; rw [h]
  | .list a xs, .list b ys, h => by simp only [datEq, Bool.and_eq_true, beq_iff_eq] at h; rw [h.1, datEqs_eq xs ys h.2]
  | .agg xs, .agg ys, h => by simp only [datEq] at h; rw [datEqs_eq xs ys h]
  | .nilIface, b, h => by cases b <;> first | rfl | (simp [datEq] at h)
  | .fn .., b, h => by cases b <;> simp [datEq] at h
  | .ptr _, b, h => by cases b <;> simp [datEq] at h
  | .map _, b, h => by cases b <;> simp [datEq] at h
  | .nilFn, b, h => by cases b <;> simp [datEq] at h
  | .nilPtr, b, h => by cases b <;> simp [datEq] at h
  | .nilMap, b, h => by cases b <;> simp [datEq] at h
  | .iface _ _, b, h => by cases b <;> simp [datEq] at h
  | .opq, b, h => by cases b <;> simp [datEq] at h
  | .bool _, .int .., h | .bool _, .str _, h | .bool _, .nil _, h | .bool _, .list .., h | .bool _, .agg _, h | .bool _, .fn .., h | .bool _, .ptr _, h | .bool _, .map _, h | .bool _, .nilFn, h | .bool _, .nilPtr, h | .bool _, .nilMap, h | .bool _, .nilIface, h | .bool _, .iface .., h | .bool _, .opq, h => by simp [datEq] at h
  | .int .., .bool _, h | .int .., .str _, h | .int .., .nil _, h | .int .., .list .., h | .int .., .agg _, h | .int .., .fn .., h | .int .., .ptr _, h | .int .., .map _, h | .int .., .nilFn, h | .int .., .nilPtr, h | .int .., .nilMap, h | .int .., .nilIface, h | .int .., .iface .., h | .int .., .opq, h => by simp [datEq] at h
  | .str _, .bool _, h | .str _, .int .., h | .str _, .nil _, h | .str _, .list .., h | .str _, .agg _, h | .str _, .fn .., h | .str _, .ptr _, h | .str _, .map _, h | .str _, .nilFn, h | .str _, .nilPtr, h | .str _, .nilMap, h | .str _, .nilIface, h | .str _, .iface .., h | .str _, .opq, h => by simp [datEq] at h
  | .nil _, .bool _, h | .nil _, .int .., h | .nil _, .str _, h | .nil _, .list .., h | .nil _, .agg _, h | .nil _, .fn .., h | .nil _, .ptr _, h | .nil _, .map _, h | .nil _, .nilFn, h | .nil _, .nilPtr, h | .nil _, .nilMap, h | .nil _, .nilIface, h | .nil _, .iface .., h | .nil _, .opq, h => by simp [datEq] at h
  | .list .., .bool _, h | .list .., .int .., h | .list .., .str _, h | .list .., .nil _, h | .list .., .agg _, h | .list .., .fn .., h | .list .., .ptr _, h | .list .., .map _, h | .list .., .nilFn, h | .list .., .nilPtr, h | .list .., .nilMap, h | .list .., .nilIface, h | .list .., .iface .., h | .list .., .opq, h => by simp [datEq] at h
  | .agg _, .bool _, h | .agg _, .int .., h | .agg _, .str _, h | .agg _, .nil _, h | .agg _, .list .., h | .agg _, .fn .., h | .agg _, .ptr _, h | .agg _, .map _, h | .agg _, .nilFn, h | .agg _, .nilPtr, h | .agg _, .nilMap, h | .agg _, .nilIface, h | .agg _, .iface .., h | .agg _, .opq, h => by simp [datEq] at h
theorem datEqs_eq : ∀ (a b : List Dat), datEqs a b = true → a = b
  | [], [], _ => rfl
  | [], _ :: _, h => by simp [datEqs] at h
  | _ :: _, [], h => by simp [datEqs] at h
  | x :: xs, y :: ys, h => by
    simp only [datEqs, Bool.and_eq_true] at h
    rw [datEq_eq x y h.1, datEqs_eq xs ys h.2]
end
def avEqs : List Av → List Av → Bool
  | [], [] => true
  | .d x :: xs, .d y :: ys => datEq x y && avEqs xs ys
  | _, _ => false
theorem avEqs_eq : ∀ (a b : List Av), avEqs a b = true → a = b
  | [], [], _ => rfl
  | [], _ :: _, h => by simp [avEqs] at h
  | x :: xs, [], h => by cases x <;> simp [avEqs] at h
  | x :: xs, y :: ys, h => by
    cases x with
    | d x =>
      cases y with
      | d y =>
        simp only [avEqs, Bool.and_eq_true] at h
        rw [datEq_eq x y h.1, avEqs_eq xs ys h.2]
      | _ => simp [avEqs] at h
    | _ => simp [avEqs] at h
def avEq : Av → Av → Bool
  | .d x, .d y => datEq x y
  | .tup xs, .tup ys => avEqs xs ys
  | _, _ => false
theorem avEq_eq {a b : Av} (h : avEq a b = true) : a = b := by
  unfold avEq at h
  split at h
  · rw [datEq_eq _ _ h]
  · rw [avEqs_eq _ _ h]
  · cases h

abbrev Tbl := List (Nat × List Dat × Av)
def findT (f : Nat) (ds : List Dat) : Tbl → Option Av
  | [] => none
  | (g, l, v) :: r => match g == f with
    | true => match datEqs ds l with
      | true => some v
      | false => findT f ds r
    | false => findT f ds r
/-- a table asked first -/
def ext (t : Tbl) (X : Ext) : Ext := fun f ds => match findT f ds t with
  | some v => some v
  | none => X f ds
def tblOK (P : Program) (X : Ext) : Tbl → Bool
  | [] => true
  | (f, l, v) :: r => (match evF P false (callF P X K1 500 40) 500 f (l.map .d) [] with
    | some (u, _) => pureB u && avEq u v
    | none => false) && tblOK P X r

theorem tblOK_find {P : Program} {X : Ext} (hX : ExtOK P X) : ∀ {t : Tbl} {f : Nat} {ds : List Dat} {v : Av}, tblOK P X t = true → findT f ds t = some v → CallOK P (.fn f) (ds.map .d) [] v []
  | [], _, _, _, _, h => by cases h
  | (g, l, x) :: r, f, ds, v, h, hf => by
    rw [tblOK, Bool.and_eq_true] at h
    rw [findT] at hf
    split at hf
    · rename_i e1
      split at hf
      · rename_i e2
        cases hf
        obtain rfl := datEqs_eq _ _ e2
        simp only [beq_iff_eq] at e1
        subst e1
        have h1 := h.1
        cases ev : evF P false (callF P X K1 500 40) 500 g (ds.map .d) [] with
        | none => rw [ev] at h1; cases h1
        | some y =>
          obtain ⟨u, fh⟩ := y
          rw [ev] at h1
          simp only [Bool.and_eq_true] at h1
          obtain ⟨hp, he⟩ := h1
          obtain rfl := avEq_eq he
          have hc : PCon P g ds u := ev_pcon (X := X) (K := K1) (L := 500) (n := 40) hX ev hp
          exact hc.call (pureB_ok hp)
      · exact tblOK_find hX h.2 hf
    · exact tblOK_find hX h.2 hf

theorem ext_ok {P : Program} {X : Ext} {t : Tbl} (hX : ExtOK P X) (h : tblOK P X t = true) : ExtOK P (ext t X) := by
  intro f ds v hx
  unfold ext at hx
  split at hx
  · rename_i u e
    cases hx
    exact tblOK_find hX h e
  · exact hX f ds v hx

def trueT (P : Program) (X : Ext) (f : Nat) : Bool := match evF P false (callF P X K1 500 40) 500 f [] [] with
  | some (.d (.bool b), _) => b
  | _ => false
theorem trueT_pcon {P : Program} {X : Ext} (hX : ExtOK P X) {f : Nat} (h : trueT P X f = true) : PCon P f [] (.d (.bool true)) := by
  unfold trueT at h
  cases e : evF P false (callF P X K1 500 40) 500 f [] [] with
  | none => rw [e] at h; cases h
  | some x =>
    obtain ⟨v, fh⟩ := x
    rw [e] at h
    have hv : v = .d (.bool true) := by
      cases v with
      | d x => cases x <;> first | (cases h; done) | (simp only at h; rw [h])
      | _ => cases h
    subst hv
    exact ev_pcon (X := X) (K := K1) (L := 500) (n := 40) (f := f) (ds := []) (v := .d (.bool true)) (fh := fh) hX e rfl
end Go.Proofs

namespace Go.Proofs
open Go Av
/-- manifold/path.Parse -/
def ir26 : Ic :=
  .seq (.dn (.reg (
    .op (some 2) (.mov (.k (.nil 3))) <|
    .op (some 3) (.mov (.k (.int .i64 0))) <|
    .nil)) [2, 3]) <|
  .seq (.dn (.block 0 (
    .seq (.dn (.reg (
      .op (some 10) (.mov (.t 0)) <|
      .op (some 11) (.bin .seq (.t 10) (.k (.str []))) <|
      .op (some 9) (.mov (.t 11)) <|
      .nil)) [10, 11]) <|
    .dn (.ite (.t 9) (.seq (.dn (.reg (
        .op (some 2) (.mov (.k (.nil 3))) <|
        .op (some 3) (.mov (.k (.int .i64 4))) <|
        .nil)) [0, 9]) <|
      .ret)
      (.seq (.dn (.reg (
        .op (some 13) (.mov (.t 0)) <|
        .op (some 14) (.slen (.t 13)) <|
        .op (some 15) (.bin .gtr (.t 14) (.k (.int .i64 200))) <|
        .op (some 12) (.mov (.t 15)) <|
        .nil)) [9, 13, 14, 15]) <|
      .dn (.ite (.t 12) (.seq (.dn (.reg (
          .op (some 2) (.mov (.k (.nil 3))) <|
          .op (some 3) (.mov (.k (.int .i64 5))) <|
          .nil)) [0, 12]) <|
        .ret)
        (.skip)) [2, 3, 12])) [2, 3])) [10, 11, 9, 2, 3, 13, 14, 15, 12]) <|
  .seq (.reg (
    .op (some 4) (.mov (.k (.nil 3))) <|
    .nil)) <|
  .seq (.seq (.dn (.reg (
    .op (some 16) (.mov (.t 0)) <|
    .op (some 17) (.bin .cat (.k (.str [46])) (.t 16)) <|
    .op (some 5) (.mov (.t 17)) <|
    .nil)) [0, 16, 17]) <|
  .dn (.block 1 (
    .loop (
      .seq (.seq (.dn (.reg (
        .op (some 18) (.mov (.t 5)) <|
        .op (some 19) (.bin .sne (.t 18) (.k (.str []))) <|
        .nil)) [18]) <|
      .dn (.ite (.t 19) (.skip)
        (.exit 1)) [19]) <|
      .dn (.block 2 (
        .seq (.dn (.reg (
          .op (some 21) (.mov (.t 5)) <|
          .call (some 22) (.fn 73) [(.t 21)] <|
          .op (some 20) (.mov (.t 22)) <|
          .op (some 23) (.ext (.t 20) 0) <|
          .op (some 24) (.ext (.t 20) 1) <|
          .op (some 25) (.ext (.t 20) 2) <|
          .op (some 6) (.new [(.int .i64 0), (.int .i64 0), (.str [])]) <|
          .op none (.sto (some 3) (.t 6) (.t 23)) <|
          .op (some 7) (.mov (.t 24)) <|
          .op (some 8) (.mov (.t 25)) <|
          .nil)) [5, 21, 22, 20, 23, 24, 25]) <|
        .seq (.seq (.dn (.reg (
          .op (some 26) (.mov (.t 8)) <|
          .op (some 27) (.not (.t 26)) <|
          .op (some 28) (.mov (.t 27)) <|
          .sc 28 false (
            .op (some 29) (.ld (some 3) (.t 6)) <|
            .call (some 30) (.fn 74) [(.t 29)] <|
            .op (some 31) (.not (.t 30)) <|
            .nil) (.t 31) 32 <|
          .nil)) [8, 26, 27, 28, 29, 30, 31]) <|
        .dn (.ite (.t 32) (.seq (.dn (.reg (
            .op (some 2) (.mov (.k (.nil 3))) <|
            .op (some 3) (.mov (.k (.int .i64 13))) <|
            .nil)) [4, 6, 7, 32]) <|
          .ret)
          (.skip)) [2, 3, 32]) <|
        .dn (.reg (
          .op (some 33) (.mov (.t 4)) <|
          .op (some 34) (.ld (some 3) (.t 6)) <|
          .op (some 35) (.bls 3 [(.t 34)]) <|
          .op (some 36) (.app 3 (.t 33) (.t 35)) <|
          .op (some 37) (.mov (.t 7)) <|
          .op (some 4) (.mov (.t 36)) <|
          .op (some 5) (.mov (.t 37)) <|
          .nil)) [6, 7, 33, 34, 35, 36, 37])) [21, 22, 20, 23, 24, 25, 6, 7, 8, 26, 27, 28, 29, 30, 31, 32, 2, 3, 33, 34, 35, 36, 37]))) [5, 18, 19, 21, 22, 20, 23, 24, 25, 6, 7, 8, 26, 27, 28, 29, 30, 31, 32, 2, 3, 33, 34, 35, 36, 37]) <|
  .seq (.seq (.dn (.reg (
    .op (some 38) (.mov (.t 4)) <|
    .op (some 39) (.len (.t 38)) <|
    .op (some 40) (.bin .gtr (.t 39) (.k (.int .i64 16))) <|
    .nil)) [38, 39]) <|
  .dn (.ite (.t 40) (.seq (.dn (.reg (
      .op (some 2) (.mov (.k (.nil 3))) <|
      .op (some 3) (.mov (.k (.int .i64 9))) <|
      .nil)) [4, 40]) <|
    .ret)
    (.skip)) [2, 3, 40]) <|
  .seq (.dn (.reg (
    .op (some 41) (.mov (.t 4)) <|
    .op (some 2) (.mov (.t 41)) <|
    .op (some 3) (.mov (.k (.int .i64 0))) <|
    .nil)) [4, 41]) <|
  .ret
theorem ok26 : FnOk Tryz.prog 26 42 ir26 [.tmp 2, .tmp 3] := FnOk.of Tryz.func26 (by kernel_rfl) (by kernel_rfl) (by kernel_rfl) (by kernel_rfl)
/-- slices.ContainsFunc   manifold/path.Part,manifold/path.Part  -/
def ir157 : Ic :=
  .seq (.dn (.reg (
    .op (some 4) (.mov (.k (.bool false))) <|
    .nil)) [4]) <|
  .seq (.dn (.reg (
    .op (some 5) (.mov (.t 0)) <|
    .op (some 6) (.mov (.t 1)) <|
    .call (some 7) (.fn 236) [(.t 5), (.t 6)] <|
    .op (some 8) (.bin .geq (.t 7) (.k (.int .i64 0))) <|
    .op (some 4) (.mov (.t 8)) <|
    .nil)) [0, 1, 5, 6, 7, 8]) <|
  .ret
theorem ok157 : FnOk Tryz.prog 157 9 ir157 [.tmp 4] := FnOk.of Tryz.func157 (by kernel_rfl) (by kernel_rfl) (by kernel_rfl) (by kernel_rfl)
/-- manifold/path.take -/
def ir73 : Ic :=
  .seq (.dn (.reg (
    .op (some 1) (.box (.t 0)) <|
    .op (some 2) (.new [(.int .i64 0), (.int .i64 0), (.str [])]) <|
    .op (some 3) (.mov (.k (.str []))) <|
    .op (some 4) (.mov (.k (.bool false))) <|
    .nil)) [0, 3, 4]) <|
  .seq (.dn (.reg (
    .op (some 12) (.fnv (.func 146) [] [(.t 1)]) <|
    .op (some 5) (.mov (.t 12)) <|
    .nil)) [12]) <|
  .seq (.dn (.reg (
    .op (some 13) (.mov (.t 5)) <|
    .call (some 14) (.dyn (.t 13)) [(.k (.int .i64 1))] <|
    .op (some 6) (.mov (.t 14)) <|
    .nil)) [5, 13, 14]) <|
  .seq (.dn (.block 0 (
    .seq (.dn (.reg (
      .op (some 16) (.ld none (.t 1)) <|
      .call (some 17) (.fn 148) [(.t 16), (.k (.str [91, 42, 93]))] <|
      .op (some 15) (.mov (.t 17)) <|
      .nil)) [16, 17]) <|
    .dn (.ite (.t 15) (.seq (.dn (.regd [(1, 3)] (
        .op (some 18) (.bld [(.int .i64 0), (.int .i64 0), (.str [])] [(0, 1, (.k (.int .i64 3)))]) <|
        .op (some 19) (.ld none (.t 1)) <|
        .op (some 20) (.sls (.t 19) (some (.k (.int .i64 3))) none) <|
        .op none (.sto (some 3) (.t 2) (.t 18)) <|
        .op (some 3) (.mov (.t 20)) <|
        .op (some 4) (.mov (.k (.bool true))) <|
        .nil)) [1, 6, 15, 18, 19, 20]) <|
      .ret)
      (.seq (.dn (.reg (
        .op (some 22) (.ld none (.t 1)) <|
        .op (some 23) (.ixs (.t 22) (.k (.int .i64 0))) <|
        .op (some 24) (.bin .eql (.t 23) (.k (.int .u8 46))) <|
        .op (some 21) (.mov (.t 24)) <|
        .nil)) [15, 22, 23, 24]) <|
      .dn (.ite (.t 21) (.seq (.dn (.regd [(4, 7)] (
          .op (some 25) (.ld none (.t 1)) <|
          .op (some 26) (.mov (.t 6)) <|
          .op (some 27) (.sls (.t 25) (some (.k (.int .i64 1))) (some (.t 26))) <|
          .op (some 28) (.bld [(.int .i64 0), (.int .i64 0), (.str [])] [(0, 1, (.k (.int .i64 1))), (2, 1, (.t 27))]) <|
          .op (some 29) (.ld none (.t 1)) <|
          .op (some 30) (.mov (.t 6)) <|
          .op (some 31) (.sls (.t 29) (some (.t 30)) none) <|
          .op none (.sto (some 3) (.t 2) (.t 28)) <|
          .op (some 3) (.mov (.t 31)) <|
          .op (some 4) (.mov (.k (.bool true))) <|
          .nil)) [1, 6, 21, 25, 26, 27, 28, 29, 30, 31]) <|
        .ret)
        (.seq (.dn (.reg (
          .op (some 33) (.ld none (.t 1)) <|
          .op (some 34) (.ixs (.t 33) (.k (.int .i64 0))) <|
          .op (some 35) (.bin .eql (.t 34) (.k (.int .u8 63))) <|
          .op (some 32) (.mov (.t 35)) <|
          .nil)) [21, 33, 34, 35]) <|
        .dn (.ite (.t 32) (.seq (.dn (.regd [(4, 7)] (
            .op (some 36) (.ld none (.t 1)) <|
            .op (some 37) (.mov (.t 6)) <|
            .op (some 38) (.sls (.t 36) (some (.k (.int .i64 1))) (some (.t 37))) <|
            .op (some 39) (.bld [(.int .i64 0), (.int .i64 0), (.str [])] [(0, 1, (.k (.int .i64 4))), (2, 1, (.t 38))]) <|
            .op (some 40) (.ld none (.t 1)) <|
            .op (some 41) (.mov (.t 6)) <|
            .op (some 42) (.sls (.t 40) (some (.t 41)) none) <|
            .op none (.sto (some 3) (.t 2) (.t 39)) <|
            .op (some 3) (.mov (.t 42)) <|
            .op (some 4) (.mov (.k (.bool true))) <|
            .nil)) [1, 6, 32, 36, 37, 38, 39, 40, 41, 42]) <|
          .ret)
          (.skip)) [3, 4, 6, 32])) [3, 4])) [3, 4])) [6, 16, 17, 15, 18, 19, 20, 3, 4, 22, 23, 24, 21, 25, 26, 27, 28, 29, 30, 31, 33, 34, 35, 32, 36, 37, 38, 39, 40, 41, 42]) <|
  .seq (.dn (.reg (
    .op (some 44) (.ld none (.t 1)) <|
    .op (some 45) (.sls (.t 44) (some (.k (.int .i64 1))) none) <|
    .call (some 46) (.fn 149) [(.t 45), (.k (.str [93]))] <|
    .op (some 43) (.mov (.t 46)) <|
    .op (some 47) (.ext (.t 43) 0) <|
    .op (some 48) (.ext (.t 43) 1) <|
    .op (some 49) (.ext (.t 43) 2) <|
    .op (some 7) (.mov (.t 47)) <|
    .op (some 8) (.mov (.t 48)) <|
    .op (some 9) (.mov (.t 49)) <|
    .nil)) [44, 45, 46, 43, 47, 48, 49]) <|
  .seq (.dn (.reg (
    .op (some 51) (.mov (.t 7)) <|
    .call (some 52) (.fn 150) [(.t 51)] <|
    .op (some 50) (.mov (.t 52)) <|
    .op (some 53) (.ext (.t 50) 0) <|
    .op (some 54) (.ext (.t 50) 1) <|
    .op (some 10) (.mov (.t 53)) <|
    .op (some 11) (.mov (.t 54)) <|
    .nil)) [51, 52, 50, 53, 54]) <|
  .seq (.dn (.reg (
    .op (some 55) (.mov (.t 10)) <|
    .op (some 56) (.bld [(.int .i64 0), (.int .i64 0), (.str [])] [(0, 1, (.k (.int .i64 2))), (1, 1, (.t 55))]) <|
    .op (some 57) (.mov (.t 8)) <|
    .op (some 58) (.ld none (.t 1)) <|
    .op (some 59) (.ixs (.t 58) (.k (.int .i64 0))) <|
    .op (some 60) (.bin .eql (.t 59) (.k (.int .u8 91))) <|
    .op (some 61) (.mov (.t 60)) <|
    .sc 61 true (
      .op (some 62) (.mov (.t 9)) <|
      .nil) (.t 62) 63 <|
    .op (some 64) (.mov (.t 63)) <|
    .sc 64 true (
      .op (some 65) (.mov (.t 11)) <|
      .op (some 66) (.bin .nileq (.t 65) (.k .nilIface)) <|
      .nil) (.t 66) 67 <|
    .op (some 68) (.mov (.t 67)) <|
    .sc 68 true (
      .op (some 69) (.mov (.t 10)) <|
      .call (some 70) (.fn 100) [(.t 69)] <|
      .op (some 71) (.mov (.t 7)) <|
      .op (some 72) (.bin .seq (.t 70) (.t 71)) <|
      .nil) (.t 72) 73 <|
    .op none (.sto (some 3) (.t 2) (.t 56)) <|
    .op (some 3) (.mov (.t 57)) <|
    .op (some 4) (.mov (.t 73)) <|
    .nil)) [1, 7, 8, 9, 10, 11, 55, 56, 57, 58, 59, 60, 61, 62, 63, 64, 65, 66, 67, 68, 69, 70, 71, 72, 73]) <|
  .ret
theorem ok73 : FnOk Tryz.prog 73 74 ir73 [.cell 2 (some 3), .tmp 3, .tmp 4] := FnOk.of Tryz.func73 (by kernel_rfl) (by kernel_rfl) (by kernel_rfl) (by kernel_rfl)
/-- (manifold/path.Part).valid -/
def ir74 : Ic :=
  .seq (.dn (.reg (
    .op (some 1) (.box (.t 0)) <|
    .op (some 2) (.mov (.k (.bool false))) <|
    .nil)) [0, 2]) <|
  .seq (.seq (.dn (.reg (
    .op (some 3) (.fa (.t 1) 0) <|
    .op (some 4) (.ld none (.t 3)) <|
    .nil)) [3]) <|
  .dn (.block 0 (
    .seq (.seq (.dn (.reg (
      .op (some 6) (.bin .eql (.t 4) (.k (.int .i64 1))) <|
      .op (some 5) (.mov (.t 6)) <|
      .nil)) [6]) <|
    .ite (.t 5) (.skip)
      (.dn (.reg (
        .op (some 7) (.bin .eql (.t 4) (.k (.int .i64 4))) <|
        .op (some 5) (.mov (.t 7)) <|
        .nil)) [7])) <|
    .dn (.ite (.t 5) (.seq (.dn (.reg (
        .op (some 8) (.fa (.t 1) 1) <|
        .op (some 9) (.ld none (.t 8)) <|
        .op (some 10) (.bin .eql (.t 9) (.k (.int .i64 0))) <|
        .op (some 11) (.mov (.t 10)) <|
        .sc 11 true (
          .op (some 12) (.fa (.t 1) 2) <|
          .op (some 13) (.ld none (.t 12)) <|
          .call (some 14) (.fn 151) [(.t 13)] <|
          .nil) (.t 14) 15 <|
        .op (some 2) (.mov (.t 15)) <|
        .nil)) [1, 4, 5, 8, 9, 10, 11, 12, 13, 14, 15]) <|
      .ret)
      (.seq (.dn (.reg (
        .op (some 17) (.bin .eql (.t 4) (.k (.int .i64 2))) <|
        .op (some 16) (.mov (.t 17)) <|
        .nil)) [5, 17]) <|
      .dn (.ite (.t 16) (.seq (.dn (.reg (
          .op (some 18) (.fa (.t 1) 2) <|
          .op (some 19) (.ld none (.t 18)) <|
          .op (some 20) (.bin .seq (.t 19) (.k (.str []))) <|
          .op (some 21) (.mov (.t 20)) <|
          .sc 21 true (
            .op (some 22) (.fa (.t 1) 1) <|
            .op (some 23) (.ld none (.t 22)) <|
            .op (some 24) (.bin .geq (.t 23) (.k (.int .i64 0))) <|
            .nil) (.t 24) 25 <|
          .op (some 26) (.mov (.t 25)) <|
          .sc 26 true (
            .op (some 27) (.fa (.t 1) 1) <|
            .op (some 28) (.ld none (.t 27)) <|
            .op (some 29) (.bin .lss (.t 28) (.k (.int .i64 256))) <|
            .nil) (.t 29) 30 <|
          .op (some 2) (.mov (.t 30)) <|
          .nil)) [1, 4, 16, 18, 19, 20, 21, 22, 23, 24, 25, 26, 27, 28, 29, 30]) <|
        .ret)
        (.seq (.dn (.reg (
          .op (some 32) (.bin .eql (.t 4) (.k (.int .i64 3))) <|
          .op (some 31) (.mov (.t 32)) <|
          .nil)) [4, 16, 32]) <|
        .dn (.ite (.t 31) (.seq (.dn (.reg (
            .op (some 33) (.fa (.t 1) 2) <|
            .op (some 34) (.ld none (.t 33)) <|
            .op (some 35) (.bin .seq (.t 34) (.k (.str []))) <|
            .op (some 36) (.mov (.t 35)) <|
            .sc 36 true (
              .op (some 37) (.fa (.t 1) 1) <|
              .op (some 38) (.ld none (.t 37)) <|
              .op (some 39) (.bin .eql (.t 38) (.k (.int .i64 0))) <|
              .nil) (.t 39) 40 <|
            .op (some 2) (.mov (.t 40)) <|
            .nil)) [1, 31, 33, 34, 35, 36, 37, 38, 39, 40]) <|
          .ret)
          (.skip)) [2, 1, 31])) [2])) [2])) [1, 4, 6, 5, 7, 8, 9, 10, 11, 12, 13, 14, 15, 2, 17, 16, 18, 19, 20, 21, 22, 23, 24, 25, 26, 27, 28, 29, 30, 32, 31, 33, 34, 35, 36, 37, 38, 39, 40]) <|
  .seq (.reg (
    .op (some 2) (.mov (.k (.bool false))) <|
    .nil)) <|
  .ret
theorem ok74 : FnOk Tryz.prog 74 41 ir74 [.tmp 2] := FnOk.of Tryz.func74 (by kernel_rfl) (by kernel_rfl) (by kernel_rfl) (by kernel_rfl)
/-- slices.IndexFunc   manifold/path.Part,manifold/path.Part  -/
def ir236 : Ic :=
  .seq (.dn (.reg (
    .op (some 4) (.mov (.k (.int .i64 0))) <|
    .nil)) [4]) <|
  .seq (.seq (.dn (.reg (
    .op (some 6) (.mov (.t 0)) <|
    .op (some 7) (.len (.t 6)) <|
    .op (some 8) (.mov (.k (.int .i64 0))) <|
    .nil)) [6]) <|
  .dn (.block 0 (
    .loop (
      .seq (.reg (
        .op (some 9) (.bin .lss (.t 8) (.t 7)) <|
        .nil)) <|
      .seq (.dn (.ite (.t 9) (.skip)
        (.exit 0)) [9]) <|
      .seq (.dn (.block 1 (
        .seq (.dn (.reg (
          .op (some 10) (.mov (.t 8)) <|
          .op (some 5) (.mov (.t 10)) <|
          .nil)) [10]) <|
        .seq (.dn (.reg (
          .op (some 11) (.mov (.t 1)) <|
          .op (some 12) (.mov (.t 0)) <|
          .op (some 13) (.mov (.t 5)) <|
          .op (some 14) (.ixa true 3 (.t 12) (.t 13)) <|
          .op (some 15) (.ld (some 3) (.t 14)) <|
          .call (some 16) (.dyn (.t 11)) [(.t 15)] <|
          .nil)) [11, 12, 13, 14, 15]) <|
        .dn (.ite (.t 16) (.seq (.dn (.reg (
            .op (some 17) (.mov (.t 5)) <|
            .op (some 4) (.mov (.t 17)) <|
            .nil)) [0, 1, 7, 8, 5, 16, 17]) <|
          .ret)
          (.skip)) [4, 5, 16])) [10, 5, 11, 12, 13, 14, 15, 16, 17, 4]) <|
      .dn (.reg (
        .op (some 18) (.bin .add (.t 8) (.k (.int .i64 1))) <|
        .op (some 8) (.mov (.t 18)) <|
        .nil)) [18]))) [0, 1, 7, 8, 9, 10, 5, 11, 12, 13, 14, 15, 16, 17, 4, 18]) <|
  .seq (.reg (
    .op (some 4) (.mov (.k (.int .i64 (-1)))) <|
    .nil)) <|
  .ret
theorem ok236 : FnOk Tryz.prog 236 19 ir236 [.tmp 4] := FnOk.of Tryz.func236 (by kernel_rfl) (by kernel_rfl) (by kernel_rfl) (by kernel_rfl)
/-- manifold/value.IsName -/
def ir151 : Ic :=
  .seq (.dn (.reg (
    .op (some 2) (.mov (.k (.bool false))) <|
    .nil)) [2]) <|
  .seq (.seq (.dn (.reg (
    .op (some 5) (.mov (.t 0)) <|
    .op (some 6) (.bin .seq (.t 5) (.k (.str []))) <|
    .op (some 7) (.mov (.t 6)) <|
    .sc 7 false (
      .op (some 8) (.mov (.t 0)) <|
      .op (some 9) (.slen (.t 8)) <|
      .op (some 10) (.bin .gtr (.t 9) (.k (.int .i64 32))) <|
      .nil) (.t 10) 11 <|
    .op (some 12) (.mov (.t 11)) <|
    .sc 12 false (
      .op (some 13) (.mov (.t 0)) <|
      .op (some 14) (.ixs (.t 13) (.k (.int .i64 0))) <|
      .op (some 15) (.bin .lss (.t 14) (.k (.int .u8 97))) <|
      .nil) (.t 15) 16 <|
    .op (some 17) (.mov (.t 16)) <|
    .sc 17 false (
      .op (some 18) (.mov (.t 0)) <|
      .op (some 19) (.ixs (.t 18) (.k (.int .i64 0))) <|
      .op (some 20) (.bin .gtr (.t 19) (.k (.int .u8 122))) <|
      .nil) (.t 20) 21 <|
    .nil)) [5, 6, 7, 8, 9, 10, 11, 12, 13, 14, 15, 16, 17, 18, 19, 20]) <|
  .dn (.ite (.t 21) (.seq (.dn (.reg (
      .op (some 2) (.mov (.k (.bool false))) <|
      .nil)) [0, 21]) <|
    .ret)
    (.skip)) [2, 21]) <|
  .seq (.seq (.dn (.reg (
    .op (some 22) (.mov (.t 0)) <|
    .op (some 23) (.s2b (.t 22)) <|
    .op (some 24) (.len (.t 23)) <|
    .op (some 25) (.mov (.k (.int .i64 0))) <|
    .nil)) [0, 22]) <|
  .dn (.block 0 (
    .loop (
      .seq (.reg (
        .op (some 26) (.bin .lss (.t 25) (.t 24)) <|
        .nil)) <|
      .seq (.dn (.ite (.t 26) (.skip)
        (.exit 0)) [26]) <|
      .seq (.dn (.block 1 (
        .seq (.dn (.reg (
          .op (some 27) (.ixa false 1 (.t 23) (.t 25)) <|
          .op (some 28) (.ld none (.t 27)) <|
          .op (some 4) (.mov (.t 28)) <|
          .nil)) [27, 28]) <|
        .seq (.dn (.reg (
          .op (some 29) (.mov (.t 4)) <|
          .op (some 30) (.bin .lss (.t 29) (.k (.int .u8 97))) <|
          .op (some 31) (.mov (.t 30)) <|
          .sc 31 false (
            .op (some 32) (.mov (.t 4)) <|
            .op (some 33) (.bin .gtr (.t 32) (.k (.int .u8 122))) <|
            .nil) (.t 33) 34 <|
          .op (some 35) (.mov (.t 34)) <|
          .sc 35 true (
            .op (some 36) (.mov (.t 4)) <|
            .op (some 37) (.bin .lss (.t 36) (.k (.int .u8 48))) <|
            .op (some 38) (.mov (.t 37)) <|
            .sc 38 false (
              .op (some 39) (.mov (.t 4)) <|
              .op (some 40) (.bin .gtr (.t 39) (.k (.int .u8 57))) <|
              .nil) (.t 40) 41 <|
            .nil) (.t 41) 42 <|
          .op (some 43) (.mov (.t 42)) <|
          .sc 43 true (
            .op (some 44) (.mov (.t 4)) <|
            .op (some 45) (.bin .neq (.t 44) (.k (.int .u8 95))) <|
            .nil) (.t 45) 46 <|
          .nil)) [4, 29, 30, 31, 32, 33, 34, 35, 36, 37, 38, 39, 40, 41, 42, 43, 44, 45]) <|
        .dn (.ite (.t 46) (.seq (.dn (.reg (
            .op (some 2) (.mov (.k (.bool false))) <|
            .nil)) [23, 24, 25, 46]) <|
          .ret)
          (.skip)) [2, 46])) [27, 28, 4, 29, 30, 31, 32, 33, 34, 35, 36, 37, 38, 39, 40, 41, 42, 43, 44, 45, 46, 2]) <|
      .dn (.reg (
        .op (some 47) (.bin .add (.t 25) (.k (.int .i64 1))) <|
        .op (some 25) (.mov (.t 47)) <|
        .nil)) [47]))) [23, 24, 25, 26, 27, 28, 4, 29, 30, 31, 32, 33, 34, 35, 36, 37, 38, 39, 40, 41, 42, 43, 44, 45, 46, 2, 47]) <|
  .seq (.reg (
    .op (some 2) (.mov (.k (.bool true))) <|
    .nil)) <|
  .ret
theorem ok151 : FnOk Tryz.prog 151 48 ir151 [.tmp 2] := FnOk.of Tryz.func151 (by kernel_rfl) (by kernel_rfl) (by kernel_rfl) (by kernel_rfl)
/-- manifold/path.take$1 -/
def ir146 : Ic :=
  .seq (.dn (.reg (
    .op (some 3) (.mov (.k (.int .i64 0))) <|
    .nil)) [3]) <|
  .seq (.dn (.reg (
    .op (some 5) (.ld none (.t 1)) <|
    .op (some 6) (.mov (.t 0)) <|
    .op (some 7) (.sls (.t 5) (some (.t 6)) none) <|
    .call (some 8) (.fn 147) [(.t 7), (.k (.str [46, 91, 63]))] <|
    .op (some 4) (.mov (.t 8)) <|
    .nil)) [5, 6, 7, 8]) <|
  .seq (.seq (.dn (.reg (
    .op (some 9) (.mov (.t 4)) <|
    .op (some 10) (.bin .lss (.t 9) (.k (.int .i64 0))) <|
    .nil)) [9]) <|
  .dn (.ite (.t 10) (.seq (.dn (.reg (
      .op (some 11) (.ld none (.t 1)) <|
      .op (some 12) (.slen (.t 11)) <|
      .op (some 3) (.mov (.t 12)) <|
      .nil)) [0, 4, 10, 11, 12]) <|
    .ret)
    (.skip)) [3, 10]) <|
  .seq (.dn (.reg (
    .op (some 13) (.mov (.t 0)) <|
    .op (some 14) (.mov (.t 4)) <|
    .op (some 15) (.bin .add (.t 13) (.t 14)) <|
    .op (some 3) (.mov (.t 15)) <|
    .nil)) [0, 4, 13, 14, 15]) <|
  .ret
theorem ok146 : FnOk Tryz.prog 146 16 ir146 [.tmp 3] := FnOk.of Tryz.func146 (by kernel_rfl) (by kernel_rfl) (by kernel_rfl) (by kernel_rfl)
/-- strings.IndexAny -/
def ir147 : Ic :=
  .seq (.dn (.reg (
    .op (some 4) (.mov (.k (.int .i64 0))) <|
    .nil)) [4]) <|
  .seq (.seq (.dn (.reg (
    .op (some 11) (.mov (.t 1)) <|
    .op (some 12) (.bin .seq (.t 11) (.k (.str []))) <|
    .nil)) [11]) <|
  .dn (.ite (.t 12) (.seq (.dn (.reg (
      .op (some 4) (.mov (.k (.int .i64 (-1)))) <|
      .nil)) [0, 1, 12]) <|
    .ret)
    (.skip)) [4, 12]) <|
  .seq (.seq (.dn (.reg (
    .op (some 13) (.mov (.t 1)) <|
    .op (some 14) (.slen (.t 13)) <|
    .op (some 15) (.bin .eql (.t 14) (.k (.int .i64 1))) <|
    .nil)) [13, 14]) <|
  .dn (.ite (.t 15) (.seq (.dn (.reg (
      .op (some 16) (.mov (.t 1)) <|
      .op (some 17) (.ixs (.t 16) (.k (.int .i64 0))) <|
      .op (some 18) (.cvi .i32 (.t 17)) <|
      .op (some 5) (.mov (.t 18)) <|
      .nil)) [1, 15, 16, 17, 18]) <|
    .seq (.seq (.dn (.reg (
      .op (some 19) (.mov (.t 5)) <|
      .op (some 20) (.bin .geq (.t 19) (.k (.int .i32 128))) <|
      .nil)) [19]) <|
    .dn (.ite (.t 20) (.dn (.reg (
        .op (some 5) (.mov (.k (.int .i32 65533))) <|
        .nil)) [20])
      (.skip)) [20]) <|
    .seq (.dn (.reg (
      .op (some 21) (.mov (.t 0)) <|
      .op (some 22) (.mov (.t 5)) <|
      .call (some 23) (.fn 228) [(.t 21), (.t 22)] <|
      .op (some 4) (.mov (.t 23)) <|
      .nil)) [0, 5, 21, 22, 23]) <|
    .ret)
    (.skip)) [4, 15]) <|
  .seq (.seq (.dn (.reg (
    .op (some 24) (.mov (.t 0)) <|
    .op (some 25) (.slen (.t 24)) <|
    .call (some 26) (.fn 229) [(.t 25)] <|
    .nil)) [24, 25]) <|
  .dn (.ite (.t 26) (.seq (.dn (.reg (
      .op (some 28) (.mov (.t 1)) <|
      .call (some 29) (.fn 230) [(.t 28)] <|
      .op (some 27) (.mov (.t 29)) <|
      .op (some 30) (.ext (.t 27) 0) <|
      .op (some 31) (.ext (.t 27) 1) <|
      .op (some 6) (.new [(.bool false), (.bool false), (.bool false), (.bool false), (.bool false), (.bool false), (.bool false), (.bool false), (.bool false), (.bool false), (.bool false), (.bool false), (.bool false), (.bool false), (.bool false), (.bool false), (.bool false), (.bool false), (.bool false), (.bool false), (.bool false), (.bool false), (.bool false), (.bool false), (.bool false), (.bool false), (.bool false), (.bool false), (.bool false), (.bool false), (.bool false), (.bool false), (.bool false), (.bool false), (.bool false), (.bool false), (.bool false), (.bool false), (.bool false), (.bool false), (.bool false), (.bool false), (.bool false), (.bool false), (.bool false), (.bool false), (.bool false), (.bool false), (.bool false), (.bool false), (.bool false), (.bool false), (.bool false), (.bool false), (.bool false), (.bool false), (.bool false), (.bool false), (.bool false), (.bool false), (.bool false), (.bool false), (.bool false), (.bool false), (.bool false), (.bool false), (.bool false), (.bool false), (.bool false), (.bool false), (.bool false), (.bool false), (.bool false), (.bool false), (.bool false), (.bool false), (.bool false), (.bool false), (.bool false), (.bool false), (.bool false), (.bool false), (.bool false), (.bool false), (.bool false), (.bool false), (.bool false), (.bool false), (.bool false), (.bool false), (.bool false), (.bool false), (.bool false), (.bool false), (.bool false), (.bool false), (.bool false), (.bool false), (.bool false), (.bool false), (.bool false), (.bool false), (.bool false), (.bool false), (.bool false), (.bool false), (.bool false), (.bool false), (.bool false), (.bool false), (.bool false), (.bool false), (.bool false), (.bool false), (.bool false), (.bool false), (.bool false), (.bool false), (.bool false), (.bool false), (.bool false), (.bool false), (.bool false), (.bool false), (.bool false), (.bool false), (.bool false), (.bool false), (.bool false), (.bool false), (.bool false), (.bool false), (.bool false), (.bool false), (.bool false), (.bool false), (.bool false), (.bool false), (.bool false), (.bool false), (.bool false), (.bool false), (.bool false), (.bool false), (.bool false), (.bool false), (.bool false), (.bool false), (.bool false), (.bool false), (.bool false), (.bool false), (.bool false), (.bool false), (.bool false), (.bool false), (.bool false), (.bool false), (.bool false), (.bool false), (.bool false), (.bool false), (.bool false), (.bool false), (.bool false), (.bool false), (.bool false), (.bool false), (.bool false), (.bool false), (.bool false), (.bool false), (.bool false), (.bool false), (.bool false), (.bool false), (.bool false), (.bool false), (.bool false), (.bool false), (.bool false), (.bool false), (.bool false), (.bool false), (.bool false), (.bool false), (.bool false), (.bool false), (.bool false), (.bool false), (.bool false), (.bool false), (.bool false), (.bool false), (.bool false), (.bool false), (.bool false), (.bool false), (.bool false), (.bool false), (.bool false), (.bool false), (.bool false), (.bool false), (.bool false), (.bool false), (.bool false), (.bool false), (.bool false), (.bool false), (.bool false), (.bool false), (.bool false), (.bool false), (.bool false), (.bool false), (.bool false), (.bool false), (.bool false), (.bool false), (.bool false), (.bool false), (.bool false), (.bool false), (.bool false), (.bool false), (.bool false), (.bool false), (.bool false), (.bool false), (.bool false), (.bool false), (.bool false), (.bool false), (.bool false), (.bool false), (.bool false), (.bool false), (.bool false), (.bool false), (.bool false), (.bool false), (.bool false), (.bool false), (.bool false), (.bool false), (.bool false), (.bool false), (.bool false), (.bool false), (.bool false), (.bool false), (.bool false), (.bool false), (.bool false), (.bool false)]) <|
      .op none (.sto (some 256) (.t 6) (.t 30)) <|
      .op (some 7) (.mov (.t 31)) <|
      .nil)) [26, 28, 29, 27, 30, 31]) <|
    .seq (.dn (.reg (
      .op (some 32) (.mov (.t 7)) <|
      .nil)) [7]) <|
    .dn (.ite (.t 32) (.seq (.seq (.dn (.reg (
        .op (some 8) (.mov (.k (.int .i64 0))) <|
        .nil)) [1, 32]) <|
      .dn (.block 0 (
        .loop (
          .seq (.seq (.dn (.reg (
            .op (some 33) (.mov (.t 8)) <|
            .op (some 34) (.mov (.t 0)) <|
            .op (some 35) (.slen (.t 34)) <|
            .op (some 36) (.bin .lss (.t 33) (.t 35)) <|
            .nil)) [33, 34, 35]) <|
          .dn (.ite (.t 36) (.skip)
            (.exit 0)) [36]) <|
          .seq (.dn (.block 1 (
            .seq (.dn (.reg (
              .op (some 39) (.mov (.t 0)) <|
              .op (some 40) (.mov (.t 8)) <|
              .op (some 41) (.ixs (.t 39) (.t 40)) <|
              .call (some 42) (.fn 231) [(.t 6), (.t 41)] <|
              .nil)) [39, 40, 41]) <|
            .dn (.ite (.t 42) (.seq (.dn (.reg (
                .op (some 43) (.mov (.t 8)) <|
                .op (some 4) (.mov (.t 43)) <|
                .nil)) [0, 6, 8, 42, 43]) <|
              .ret)
              (.skip)) [4, 42])) [39, 40, 41, 42, 43, 4]) <|
          .dn (.reg (
            .op (some 37) (.mov (.t 8)) <|
            .op (some 38) (.bin .add (.t 37) (.k (.int .i64 1))) <|
            .op (some 8) (.mov (.t 38)) <|
            .nil)) [37, 38]))) [0, 6, 8, 33, 34, 35, 36, 39, 40, 41, 42, 43, 4, 37, 38]) <|
      .seq (.reg (
        .op (some 4) (.mov (.k (.int .i64 (-1)))) <|
        .nil)) <|
      .ret)
      (.skip)) [4, 6, 32])
    (.skip)) [26]) <|
  .seq (.seq (.dn (.reg (
    .op (some 44) (.mov (.t 0)) <|
    .op (some 45) (.rgs (.t 44)) <|
    .nil)) [0, 44]) <|
  .dn (.block 2 (
    .loop (
      .seq (.reg (
        .op (some 46) (.nxs (.t 45)) <|
        .op (some 47) (.ext (.t 46) 0) <|
        .nil)) <|
      .seq (.dn (.ite (.t 47) (.skip)
        (.exit 2)) [47]) <|
      .dn (.block 3 (
        .seq (.dn (.reg (
          .op (some 48) (.ext (.t 46) 1) <|
          .op (some 49) (.ext (.t 46) 2) <|
          .op (some 9) (.mov (.t 48)) <|
          .op (some 10) (.mov (.t 49)) <|
          .nil)) [46, 48, 49]) <|
        .seq (.dn (.reg (
          .op (some 50) (.mov (.t 1)) <|
          .op (some 51) (.mov (.t 10)) <|
          .call (some 52) (.fn 228) [(.t 50), (.t 51)] <|
          .op (some 53) (.bin .geq (.t 52) (.k (.int .i64 0))) <|
          .nil)) [10, 50, 51, 52]) <|
        .dn (.ite (.t 53) (.seq (.dn (.reg (
            .op (some 54) (.mov (.t 9)) <|
            .op (some 4) (.mov (.t 54)) <|
            .nil)) [1, 45, 9, 53, 54]) <|
          .ret)
          (.skip)) [4, 9, 53])) [46, 48, 49, 9, 10, 50, 51, 52, 53, 54, 4]))) [1, 45, 46, 47, 48, 49, 9, 10, 50, 51, 52, 53, 54, 4]) <|
  .seq (.reg (
    .op (some 4) (.mov (.k (.int .i64 (-1)))) <|
    .nil)) <|
  .ret
theorem ok147 : FnOk Tryz.prog 147 55 ir147 [.tmp 4] := FnOk.of Tryz.func147 (by kernel_rfl) (by kernel_rfl) (by kernel_rfl) (by kernel_rfl)
/-- strings.HasPrefix -/
def ir148 : Ic :=
  .seq (.dn (.reg (
    .op (some 4) (.mov (.k (.bool false))) <|
    .nil)) [4]) <|
  .seq (.dn (.reg (
    .op (some 5) (.mov (.t 0)) <|
    .op (some 6) (.mov (.t 1)) <|
    .call (some 7) (.fn 232) [(.t 5), (.t 6)] <|
    .op (some 4) (.mov (.t 7)) <|
    .nil)) [0, 1, 5, 6, 7]) <|
  .ret
theorem ok148 : FnOk Tryz.prog 148 8 ir148 [.tmp 4] := FnOk.of Tryz.func148 (by kernel_rfl) (by kernel_rfl) (by kernel_rfl) (by kernel_rfl)
/-- strings.Cut -/
def ir149 : Ic :=
  .seq (.dn (.reg (
    .op (some 4) (.mov (.k (.str []))) <|
    .op (some 5) (.mov (.k (.str []))) <|
    .op (some 6) (.mov (.k (.bool false))) <|
    .nil)) [4, 5, 6]) <|
  .seq (.dn (.reg (
    .op (some 7) (.mov (.t 0)) <|
    .op (some 8) (.mov (.t 1)) <|
    .call (some 9) (.fn 233) [(.t 7), (.t 8)] <|
    .op (some 10) (.ext (.t 9) 0) <|
    .op (some 11) (.ext (.t 9) 1) <|
    .op (some 12) (.ext (.t 9) 2) <|
    .op (some 4) (.mov (.t 10)) <|
    .op (some 5) (.mov (.t 11)) <|
    .op (some 6) (.mov (.t 12)) <|
    .nil)) [0, 1, 7, 8, 9, 10, 11, 12]) <|
  .ret
theorem ok149 : FnOk Tryz.prog 149 13 ir149 [.tmp 4, .tmp 5, .tmp 6] := FnOk.of Tryz.func149 (by kernel_rfl) (by kernel_rfl) (by kernel_rfl) (by kernel_rfl)
/-- strings.IndexRune -/
def ir228 : Ic :=
  .seq (.dn (.reg (
    .op (some 4) (.mov (.k (.int .i64 0))) <|
    .nil)) [4]) <|
  .dn (.block 0 (
    .seq (.dn (.reg (
      .op (some 161) (.mov (.t 1)) <|
      .op (some 162) (.bin .leq (.k (.int .i32 0)) (.t 161)) <|
      .op (some 163) (.mov (.t 162)) <|
      .sc 163 true (
        .op (some 164) (.mov (.t 1)) <|
        .op (some 165) (.bin .lss (.t 164) (.k (.int .i32 128))) <|
        .nil) (.t 165) 166 <|
      .op (some 160) (.mov (.t 166)) <|
      .nil)) [161, 162, 163, 164, 165, 166]) <|
    .ite (.t 160) (.seq (.dn (.reg (
        .op (some 167) (.mov (.t 0)) <|
        .op (some 168) (.mov (.t 1)) <|
        .op (some 169) (.cvi .u8 (.t 168)) <|
        .call (some 170) (.fn 309) [(.t 167), (.t 169)] <|
        .op (some 4) (.mov (.t 170)) <|
        .nil)) [0, 1, 160, 167, 168, 169, 170]) <|
      .ret)
      (.seq (.dn (.reg (
        .op (some 172) (.mov (.t 1)) <|
        .op (some 173) (.bin .eql (.t 172) (.k (.int .i32 65533))) <|
        .op (some 171) (.mov (.t 173)) <|
        .nil)) [160, 172, 173]) <|
      .ite (.t 171) (.seq (.seq (.dn (.reg (
          .op (some 174) (.mov (.t 0)) <|
          .op (some 175) (.rgs (.t 174)) <|
          .nil)) [0, 1, 171, 174]) <|
        .dn (.block 9 (
          .loop (
            .seq (.reg (
              .op (some 176) (.nxs (.t 175)) <|
              .op (some 177) (.ext (.t 176) 0) <|
              .nil)) <|
            .seq (.dn (.ite (.t 177) (.skip)
              (.exit 9)) [177]) <|
            .dn (.block 10 (
              .seq (.dn (.reg (
                .op (some 178) (.ext (.t 176) 1) <|
                .op (some 179) (.ext (.t 176) 2) <|
                .op (some 5) (.mov (.t 178)) <|
                .op (some 6) (.mov (.t 179)) <|
                .nil)) [176, 178, 179]) <|
              .seq (.dn (.reg (
                .op (some 180) (.mov (.t 6)) <|
                .op (some 181) (.bin .eql (.t 180) (.k (.int .i32 65533))) <|
                .nil)) [6, 180]) <|
              .dn (.ite (.t 181) (.seq (.dn (.reg (
                  .op (some 182) (.mov (.t 5)) <|
                  .op (some 4) (.mov (.t 182)) <|
                  .nil)) [175, 5, 181, 182]) <|
                .ret)
                (.skip)) [4, 5, 181])) [176, 178, 179, 5, 6, 180, 181, 182, 4]))) [175, 176, 177, 178, 179, 5, 6, 180, 181, 182, 4]) <|
        .seq (.reg (
          .op (some 4) (.mov (.k (.int .i64 (-1)))) <|
          .nil)) <|
        .ret)
        (.seq (.dn (.reg (
          .op (some 184) (.mov (.t 1)) <|
          .call (some 185) (.fn 310) [(.t 184)] <|
          .op (some 186) (.not (.t 185)) <|
          .op (some 183) (.mov (.t 186)) <|
          .nil)) [171, 184, 185, 186]) <|
        .ite (.t 183) (.seq (.dn (.reg (
            .op (some 4) (.mov (.k (.int .i64 (-1)))) <|
            .nil)) [0, 1, 183]) <|
          .ret)
          (.scp (
            .seq (.dn (.reg (
              .op (some 17) (.mov (.t 1)) <|
              .op (some 18) (.i2s (.t 17)) <|
              .op (some 7) (.mov (.t 18)) <|
              .nil)) [1, 183, 17, 18]) <|
            .seq (.dn (.reg (
              .op (some 19) (.mov (.t 7)) <|
              .op (some 20) (.slen (.t 19)) <|
              .op (some 21) (.bin .sub (.t 20) (.k (.int .i64 1))) <|
              .op (some 8) (.mov (.t 21)) <|
              .nil)) [19, 20, 21]) <|
            .seq (.dn (.reg (
              .op (some 22) (.mov (.t 8)) <|
              .op (some 9) (.mov (.t 22)) <|
              .nil)) [22]) <|
            .seq (.dn (.reg (
              .op (some 10) (.mov (.k (.int .i64 0))) <|
              .nil)) [10]) <|
            .seq (.dn (.block 1 (
              .loop (
                .seq (.seq (.dn (.reg (
                  .op (some 23) (.mov (.t 9)) <|
                  .op (some 24) (.mov (.t 0)) <|
                  .op (some 25) (.slen (.t 24)) <|
                  .op (some 26) (.bin .lss (.t 23) (.t 25)) <|
                  .nil)) [23, 24, 25]) <|
                .dn (.ite (.t 26) (.skip)
                  (.exit 1)) [26]) <|
                .dn (.block 2 (
                  .scp (
                    .seq (.seq (.dn (.reg (
                      .op (some 27) (.mov (.t 0)) <|
                      .op (some 28) (.mov (.t 9)) <|
                      .op (some 29) (.ixs (.t 27) (.t 28)) <|
                      .op (some 30) (.mov (.t 7)) <|
                      .op (some 31) (.mov (.t 8)) <|
                      .op (some 32) (.ixs (.t 30) (.t 31)) <|
                      .op (some 33) (.bin .neq (.t 29) (.t 32)) <|
                      .nil)) [27, 28, 29, 30, 31, 32]) <|
                    .dn (.ite (.t 33) (.seq (.dn (.reg (
                        .op (some 34) (.mov (.t 0)) <|
                        .op (some 35) (.mov (.t 9)) <|
                        .op (some 36) (.bin .add (.t 35) (.k (.int .i64 1))) <|
                        .op (some 37) (.sls (.t 34) (some (.t 36)) none) <|
                        .op (some 38) (.mov (.t 7)) <|
                        .op (some 39) (.mov (.t 8)) <|
                        .op (some 40) (.ixs (.t 38) (.t 39)) <|
                        .call (some 41) (.fn 309) [(.t 37), (.t 40)] <|
                        .op (some 11) (.mov (.t 41)) <|
                        .nil)) [33, 34, 35, 36, 37, 38, 39, 40, 41]) <|
                      .seq (.seq (.dn (.reg (
                        .op (some 42) (.mov (.t 11)) <|
                        .op (some 43) (.bin .lss (.t 42) (.k (.int .i64 0))) <|
                        .nil)) [42]) <|
                      .dn (.ite (.t 43) (.seq (.dn (.reg (
                          .op (some 4) (.mov (.k (.int .i64 (-1)))) <|
                          .nil)) [0, 7, 8, 9, 11, 43]) <|
                        .ret)
                        (.skip)) [4, 43]) <|
                      .dn (.reg (
                        .op (some 44) (.mov (.t 9)) <|
                        .op (some 45) (.mov (.t 11)) <|
                        .op (some 46) (.bin .add (.t 45) (.k (.int .i64 1))) <|
                        .op (some 47) (.bin .add (.t 44) (.t 46)) <|
                        .op (some 9) (.mov (.t 47)) <|
                        .nil)) [11, 44, 45, 46, 47])
                      (.skip)) [33]) <|
                    .seq (.seq (.reg (
                      .op (some 12) (.mov (.k (.int .i64 1))) <|
                      .nil)) <|
                    .dn (.block 3 (
                      .loop (
                        .seq (.seq (.dn (.reg (
                          .op (some 48) (.mov (.t 12)) <|
                          .op (some 49) (.mov (.t 7)) <|
                          .op (some 50) (.slen (.t 49)) <|
                          .op (some 51) (.bin .lss (.t 48) (.t 50)) <|
                          .nil)) [48, 49, 50]) <|
                        .dn (.ite (.t 51) (.skip)
                          (.exit 3)) [51]) <|
                        .seq (.dn (.block 4 (
                          .seq (.dn (.reg (
                            .op (some 54) (.mov (.t 0)) <|
                            .op (some 55) (.mov (.t 9)) <|
                            .op (some 56) (.mov (.t 12)) <|
                            .op (some 57) (.bin .sub (.t 55) (.t 56)) <|
                            .op (some 58) (.ixs (.t 54) (.t 57)) <|
                            .op (some 59) (.mov (.t 7)) <|
                            .op (some 60) (.mov (.t 8)) <|
                            .op (some 61) (.mov (.t 12)) <|
                            .op (some 62) (.bin .sub (.t 60) (.t 61)) <|
                            .op (some 63) (.ixs (.t 59) (.t 62)) <|
                            .op (some 64) (.bin .neq (.t 58) (.t 63)) <|
                            .nil)) [54, 55, 56, 57, 58, 59, 60, 61, 62, 63]) <|
                          .dn (.ite (.t 64) (.bad)
                            (.skip)) [64])) [54, 55, 56, 57, 58, 59, 60, 61, 62, 63, 64]) <|
                        .dn (.reg (
                          .op (some 52) (.mov (.t 12)) <|
                          .op (some 53) (.bin .add (.t 52) (.k (.int .i64 1))) <|
                          .op (some 12) (.mov (.t 53)) <|
                          .nil)) [52, 53]))) [0, 7, 12, 48, 49, 50, 51, 54, 55, 56, 57, 58, 59, 60, 61, 62, 63, 64, 52, 53]) <|
                    .seq (.seq (.dn (.reg (
                      .op (some 65) (.mov (.t 9)) <|
                      .op (some 66) (.mov (.t 8)) <|
                      .op (some 67) (.bin .sub (.t 65) (.t 66)) <|
                      .op (some 4) (.mov (.t 67)) <|
                      .nil)) [8, 9, 65, 66, 67]) <|
                    .ret) <|
                    .seq (.lab) <|
                    .seq (.dn (.reg (
                      .op (some 68) (.mov (.t 10)) <|
                      .op (some 69) (.bin .add (.t 68) (.k (.int .i64 1))) <|
                      .op (some 10) (.mov (.t 69)) <|
                      .nil)) [4, 68, 69]) <|
                    .seq (.dn (.reg (
                      .op (some 70) (.mov (.t 9)) <|
                      .op (some 71) (.bin .add (.t 70) (.k (.int .i64 1))) <|
                      .op (some 9) (.mov (.t 71)) <|
                      .nil)) [70, 71]) <|
                    .seq (.dn (.reg (
                      .op (some 72) (.mov (.k (.bool true))) <|
                      .sc 72 true (
                        .op (some 73) (.mov (.t 10)) <|
                        .op (some 74) (.mov (.t 9)) <|
                        .call (some 75) (.fn 311) [(.t 74)] <|
                        .op (some 76) (.bin .gtr (.t 73) (.t 75)) <|
                        .nil) (.t 76) 77 <|
                      .op (some 78) (.mov (.t 77)) <|
                      .sc 78 true (
                        .op (some 79) (.mov (.t 9)) <|
                        .op (some 80) (.mov (.t 0)) <|
                        .op (some 81) (.slen (.t 80)) <|
                        .op (some 82) (.bin .lss (.t 79) (.t 81)) <|
                        .nil) (.t 82) 83 <|
                      .op (some 84) (.mov (.t 83)) <|
                      .sc 84 false (
                        .op (some 85) (.mov (.k (.bool false))) <|
                        .sc 85 true (
                          .op (some 86) (.mov (.t 10)) <|
                          .op (some 87) (.mov (.t 9)) <|
                          .op (some 88) (.bit .shr (.t 87) (.k (.int .u64 4))) <|
                          .op (some 89) (.bin .add (.k (.int .i64 4)) (.t 88)) <|
                          .op (some 90) (.bin .geq (.t 86) (.t 89)) <|
                          .nil) (.t 90) 91 <|
                        .op (some 92) (.mov (.t 91)) <|
                        .sc 92 true (
                          .op (some 93) (.mov (.t 9)) <|
                          .op (some 94) (.mov (.t 0)) <|
                          .op (some 95) (.slen (.t 94)) <|
                          .op (some 96) (.bin .lss (.t 93) (.t 95)) <|
                          .nil) (.t 96) 97 <|
                        .nil) (.t 97) 98 <|
                      .nil)) [10, 72, 73, 74, 75, 76, 77, 78, 79, 80, 81, 82, 83, 84, 85, 86, 87, 88, 89, 90, 91, 92, 93, 94, 95, 96, 97]) <|
                    .dn (.ite (.t 98) (.bad)
                      (.skip)) [98]))) [27, 28, 29, 30, 31, 32, 33, 34, 35, 36, 37, 38, 39, 40, 41, 11, 42, 43, 4, 44, 45, 46, 47, 12, 48, 49, 50, 51, 54, 55, 56, 57, 58, 59, 60, 61, 62, 63, 64, 52, 53, 65, 66, 67, 68, 69, 10, 70, 71, 72, 73, 74, 75, 76, 77, 78, 79, 80, 81, 82, 83, 84, 85, 86, 87, 88, 89, 90, 91, 92, 93, 94, 95, 96, 97, 98]))) [0, 7, 8, 9, 23, 24, 25, 26, 27, 28, 29, 30, 31, 32, 33, 34, 35, 36, 37, 38, 39, 40, 41, 11, 42, 43, 4, 44, 45, 46, 47, 12, 48, 49, 50, 51, 54, 55, 56, 57, 58, 59, 60, 61, 62, 63, 64, 52, 53, 65, 66, 67, 68, 69, 10, 70, 71, 72, 73, 74, 75, 76, 77, 78, 79, 80, 81, 82, 83, 84, 85, 86, 87, 88, 89, 90, 91, 92, 93, 94, 95, 96, 97, 98]) <|
            .seq (.seq (.reg (
              .op (some 4) (.mov (.k (.int .i64 (-1)))) <|
              .nil)) <|
            .ret) <|
            .seq (.lab) <|
            .seq (.ite (.k (.bool true)) (.seq (.dn (.reg (
                .op (some 99) (.mov (.t 0)) <|
                .op (some 100) (.mov (.t 9)) <|
                .op (some 101) (.mov (.t 8)) <|
                .op (some 102) (.bin .sub (.t 100) (.t 101)) <|
                .op (some 103) (.sls (.t 99) (some (.t 102)) none) <|
                .op (some 104) (.mov (.t 1)) <|
                .op (some 105) (.i2s (.t 104)) <|
                .call (some 106) (.fn 312) [(.t 103), (.t 105)] <|
                .op (some 13) (.mov (.t 106)) <|
                .nil)) [4, 99, 100, 101, 102, 103, 104, 105, 106]) <|
              .seq (.dn (.reg (
                .op (some 107) (.mov (.t 13)) <|
                .op (some 108) (.bin .geq (.t 107) (.k (.int .i64 0))) <|
                .nil)) [107]) <|
              .dn (.ite (.t 108) (.seq (.dn (.reg (
                  .op (some 109) (.mov (.t 9)) <|
                  .op (some 110) (.mov (.t 13)) <|
                  .op (some 111) (.bin .add (.t 109) (.t 110)) <|
                  .op (some 112) (.mov (.t 8)) <|
                  .op (some 113) (.bin .sub (.t 111) (.t 112)) <|
                  .op (some 4) (.mov (.t 113)) <|
                  .nil)) [13, 108, 109, 110, 111, 112, 113]) <|
                .ret)
                (.skip)) [4, 13, 108])
              (.scp (
                .seq (.dn (.reg (
                  .op (some 114) (.mov (.t 7)) <|
                  .op (some 115) (.mov (.t 8)) <|
                  .op (some 116) (.ixs (.t 114) (.t 115)) <|
                  .op (some 14) (.mov (.t 116)) <|
                  .nil)) [4, 114, 115, 116]) <|
                .seq (.dn (.reg (
                  .op (some 117) (.mov (.t 7)) <|
                  .op (some 118) (.mov (.t 8)) <|
                  .op (some 119) (.bin .sub (.t 118) (.k (.int .i64 1))) <|
                  .op (some 120) (.ixs (.t 117) (.t 119)) <|
                  .op (some 15) (.mov (.t 120)) <|
                  .nil)) [117, 118, 119, 120]) <|
                .seq (.lab) <|
                .dn (.block 5 (
                  .loop (
                    .seq (.seq (.dn (.reg (
                      .op (some 121) (.mov (.t 9)) <|
                      .op (some 122) (.mov (.t 0)) <|
                      .op (some 123) (.slen (.t 122)) <|
                      .op (some 124) (.bin .lss (.t 121) (.t 123)) <|
                      .nil)) [121, 122, 123]) <|
                    .dn (.ite (.t 124) (.skip)
                      (.exit 5)) [124]) <|
                    .seq (.dn (.block 6 (
                      .seq (.dn (.reg (
                        .op (some 127) (.mov (.t 0)) <|
                        .op (some 128) (.mov (.t 9)) <|
                        .op (some 129) (.ixs (.t 127) (.t 128)) <|
                        .op (some 130) (.mov (.t 14)) <|
                        .op (some 131) (.bin .eql (.t 129) (.t 130)) <|
                        .op (some 132) (.mov (.t 131)) <|
                        .sc 132 true (
                          .op (some 133) (.mov (.t 0)) <|
                          .op (some 134) (.mov (.t 9)) <|
                          .op (some 135) (.bin .sub (.t 134) (.k (.int .i64 1))) <|
                          .op (some 136) (.ixs (.t 133) (.t 135)) <|
                          .op (some 137) (.mov (.t 15)) <|
                          .op (some 138) (.bin .eql (.t 136) (.t 137)) <|
                          .nil) (.t 138) 139 <|
                        .nil)) [127, 128, 129, 130, 131, 132, 133, 134, 135, 136, 137, 138]) <|
                      .dn (.ite (.t 139) (.seq (.seq (.dn (.reg (
                          .op (some 16) (.mov (.k (.int .i64 2))) <|
                          .nil)) [139]) <|
                        .dn (.block 7 (
                          .loop (
                            .seq (.seq (.dn (.reg (
                              .op (some 140) (.mov (.t 16)) <|
                              .op (some 141) (.mov (.t 7)) <|
                              .op (some 142) (.slen (.t 141)) <|
                              .op (some 143) (.bin .lss (.t 140) (.t 142)) <|
                              .nil)) [140, 141, 142]) <|
                            .dn (.ite (.t 143) (.skip)
                              (.exit 7)) [143]) <|
                            .seq (.dn (.block 8 (
                              .seq (.dn (.reg (
                                .op (some 146) (.mov (.t 0)) <|
                                .op (some 147) (.mov (.t 9)) <|
                                .op (some 148) (.mov (.t 16)) <|
                                .op (some 149) (.bin .sub (.t 147) (.t 148)) <|
                                .op (some 150) (.ixs (.t 146) (.t 149)) <|
                                .op (some 151) (.mov (.t 7)) <|
                                .op (some 152) (.mov (.t 8)) <|
                                .op (some 153) (.mov (.t 16)) <|
                                .op (some 154) (.bin .sub (.t 152) (.t 153)) <|
                                .op (some 155) (.ixs (.t 151) (.t 154)) <|
                                .op (some 156) (.bin .neq (.t 150) (.t 155)) <|
                                .nil)) [146, 147, 148, 149, 150, 151, 152, 153, 154, 155]) <|
                              .dn (.ite (.t 156) (.exit 6)
                                (.skip)) [156])) [146, 147, 148, 149, 150, 151, 152, 153, 154, 155, 156]) <|
                            .dn (.reg (
                              .op (some 144) (.mov (.t 16)) <|
                              .op (some 145) (.bin .add (.t 144) (.k (.int .i64 1))) <|
                              .op (some 16) (.mov (.t 145)) <|
                              .nil)) [144, 145]))) [14, 15, 16, 140, 141, 142, 143, 146, 147, 148, 149, 150, 151, 152, 153, 154, 155, 156, 144, 145]) <|
                        .seq (.dn (.reg (
                          .op (some 157) (.mov (.t 9)) <|
                          .op (some 158) (.mov (.t 8)) <|
                          .op (some 159) (.bin .sub (.t 157) (.t 158)) <|
                          .op (some 4) (.mov (.t 159)) <|
                          .nil)) [157, 158, 159]) <|
                        .ret)
                        (.skip)) [4, 139])) [127, 128, 129, 130, 131, 132, 133, 134, 135, 136, 137, 138, 139, 16, 140, 141, 142, 143, 146, 147, 148, 149, 150, 151, 152, 153, 154, 155, 156, 144, 145, 157, 158, 159, 4]) <|
                    .dn (.reg (
                      .op (some 125) (.mov (.t 9)) <|
                      .op (some 126) (.bin .add (.t 125) (.k (.int .i64 1))) <|
                      .op (some 9) (.mov (.t 126)) <|
                      .nil)) [125, 126]))) [14, 15, 121, 122, 123, 124, 127, 128, 129, 130, 131, 132, 133, 134, 135, 136, 137, 138, 139, 16, 140, 141, 142, 143, 146, 147, 148, 149, 150, 151, 152, 153, 154, 155, 156, 144, 145, 157, 158, 159, 4, 125, 126, 9]))) <|
            .seq (.reg (
              .op (some 4) (.mov (.k (.int .i64 (-1)))) <|
              .nil)) <|
            .ret)))))) [0, 1, 161, 162, 163, 164, 165, 166, 160, 167, 168, 169, 170, 172, 173, 171, 174, 175, 176, 177, 178, 179, 5, 6, 180, 181, 182, 184, 185, 186, 183, 17, 18, 7, 19, 20, 21, 8, 22, 9, 10, 23, 24, 25, 26, 27, 28, 29, 30, 31, 32, 33, 34, 35, 36, 37, 38, 39, 40, 41, 11, 42, 43, 44, 45, 46, 47, 12, 48, 49, 50, 51, 54, 55, 56, 57, 58, 59, 60, 61, 62, 63, 64, 52, 53, 65, 66, 67, 68, 69, 70, 71, 72, 73, 74, 75, 76, 77, 78, 79, 80, 81, 82, 83, 84, 85, 86, 87, 88, 89, 90, 91, 92, 93, 94, 95, 96, 97, 98, 99, 100, 101, 102, 103, 104, 105, 106, 13, 107, 108, 109, 110, 111, 112, 113, 114, 115, 116, 14, 117, 118, 119, 120, 15, 121, 122, 123, 124, 127, 128, 129, 130, 131, 132, 133, 134, 135, 136, 137, 138, 139, 16, 140, 141, 142, 143, 146, 147, 148, 149, 150, 151, 152, 153, 154, 155, 156, 144, 145, 157, 158, 159, 125, 126]
theorem ok228 : FnOk Tryz.prog 228 187 ir228 [.tmp 4] := FnOk.of Tryz.func228 (by kernel_rfl) (by kernel_rfl) (by kernel_rfl) (by kernel_rfl)
/-- strings.shouldUseASCIISet -/
def ir229 : Ic :=
  .seq (.dn (.reg (
    .op (some 2) (.mov (.k (.bool false))) <|
    .nil)) [2]) <|
  .seq (.dn (.reg (
    .op (some 3) (.mov (.t 0)) <|
    .op (some 4) (.bin .gtr (.t 3) (.k (.int .i64 8))) <|
    .op (some 2) (.mov (.t 4)) <|
    .nil)) [0, 3, 4]) <|
  .ret
theorem ok229 : FnOk Tryz.prog 229 5 ir229 [.tmp 2] := FnOk.of Tryz.func229 (by kernel_rfl) (by kernel_rfl) (by kernel_rfl) (by kernel_rfl)
/-- strings.makeASCIISet -/
def ir230 : Ic :=
  .seq (.dn (.reg (
    .op (some 2) (.new [(.bool false), (.bool false), (.bool false), (.bool false), (.bool false), (.bool false), (.bool false), (.bool false), (.bool false), (.bool false), (.bool false), (.bool false), (.bool false), (.bool false), (.bool false), (.bool false), (.bool false), (.bool false), (.bool false), (.bool false), (.bool false), (.bool false), (.bool false), (.bool false), (.bool false), (.bool false), (.bool false), (.bool false), (.bool false), (.bool false), (.bool false), (.bool false), (.bool false), (.bool false), (.bool false), (.bool false), (.bool false), (.bool false), (.bool false), (.bool false), (.bool false), (.bool false), (.bool false), (.bool false), (.bool false), (.bool false), (.bool false), (.bool false), (.bool false), (.bool false), (.bool false), (.bool false), (.bool false), (.bool false), (.bool false), (.bool false), (.bool false), (.bool false), (.bool false), (.bool false), (.bool false), (.bool false), (.bool false), (.bool false), (.bool false), (.bool false), (.bool false), (.bool false), (.bool false), (.bool false), (.bool false), (.bool false), (.bool false), (.bool false), (.bool false), (.bool false), (.bool false), (.bool false), (.bool false), (.bool false), (.bool false), (.bool false), (.bool false), (.bool false), (.bool false), (.bool false), (.bool false), (.bool false), (.bool false), (.bool false), (.bool false), (.bool false), (.bool false), (.bool false), (.bool false), (.bool false), (.bool false), (.bool false), (.bool false), (.bool false), (.bool false), (.bool false), (.bool false), (.bool false), (.bool false), (.bool false), (.bool false), (.bool false), (.bool false), (.bool false), (.bool false), (.bool false), (.bool false), (.bool false), (.bool false), (.bool false), (.bool false), (.bool false), (.bool false), (.bool false), (.bool false), (.bool false), (.bool false), (.bool false), (.bool false), (.bool false), (.bool false), (.bool false), (.bool false), (.bool false), (.bool false), (.bool false), (.bool false), (.bool false), (.bool false), (.bool false), (.bool false), (.bool false), (.bool false), (.bool false), (.bool false), (.bool false), (.bool false), (.bool false), (.bool false), (.bool false), (.bool false), (.bool false), (.bool false), (.bool false), (.bool false), (.bool false), (.bool false), (.bool false), (.bool false), (.bool false), (.bool false), (.bool false), (.bool false), (.bool false), (.bool false), (.bool false), (.bool false), (.bool false), (.bool false), (.bool false), (.bool false), (.bool false), (.bool false), (.bool false), (.bool false), (.bool false), (.bool false), (.bool false), (.bool false), (.bool false), (.bool false), (.bool false), (.bool false), (.bool false), (.bool false), (.bool false), (.bool false), (.bool false), (.bool false), (.bool false), (.bool false), (.bool false), (.bool false), (.bool false), (.bool false), (.bool false), (.bool false), (.bool false), (.bool false), (.bool false), (.bool false), (.bool false), (.bool false), (.bool false), (.bool false), (.bool false), (.bool false), (.bool false), (.bool false), (.bool false), (.bool false), (.bool false), (.bool false), (.bool false), (.bool false), (.bool false), (.bool false), (.bool false), (.bool false), (.bool false), (.bool false), (.bool false), (.bool false), (.bool false), (.bool false), (.bool false), (.bool false), (.bool false), (.bool false), (.bool false), (.bool false), (.bool false), (.bool false), (.bool false), (.bool false), (.bool false), (.bool false), (.bool false), (.bool false), (.bool false), (.bool false), (.bool false), (.bool false), (.bool false), (.bool false), (.bool false), (.bool false), (.bool false), (.bool false), (.bool false), (.bool false), (.bool false), (.bool false), (.bool false), (.bool false), (.bool false), (.bool false), (.bool false), (.bool false), (.bool false)]) <|
    .op (some 3) (.mov (.k (.bool false))) <|
    .nil)) [3]) <|
  .seq (.seq (.reg (
    .op (some 4) (.mov (.k (.int .i64 0))) <|
    .nil)) <|
  .dn (.block 0 (
    .loop (
      .seq (.seq (.dn (.reg (
        .op (some 6) (.mov (.t 4)) <|
        .op (some 7) (.mov (.t 0)) <|
        .op (some 8) (.slen (.t 7)) <|
        .op (some 9) (.bin .lss (.t 6) (.t 8)) <|
        .nil)) [6, 7, 8]) <|
      .dn (.ite (.t 9) (.skip)
        (.exit 0)) [9]) <|
      .seq (.dn (.block 1 (
        .seq (.dn (.reg (
          .op (some 12) (.mov (.t 0)) <|
          .op (some 13) (.mov (.t 4)) <|
          .op (some 14) (.ixs (.t 12) (.t 13)) <|
          .op (some 5) (.mov (.t 14)) <|
          .nil)) [12, 13, 14]) <|
        .seq (.seq (.dn (.reg (
          .op (some 15) (.mov (.t 5)) <|
          .op (some 16) (.bin .geq (.t 15) (.k (.int .u8 128))) <|
          .nil)) [15]) <|
        .dn (.ite (.t 16) (.seq (.dn (.reg (
            .op (some 17) (.ld (some 256) (.t 2)) <|
            .op none (.sto (some 256) (.t 2) (.t 17)) <|
            .op (some 3) (.mov (.k (.bool false))) <|
            .nil)) [0, 4, 5, 16, 17]) <|
          .ret)
          (.skip)) [3, 16]) <|
        .dn (.reg (
          .op (some 18) (.mov (.t 5)) <|
          .op (some 19) (.ixr 256 1 (.t 2) (.t 18)) <|
          .op none (.sto none (.t 19) (.k (.bool true))) <|
          .nil)) [5, 18, 19])) [12, 13, 14, 5, 15, 16, 17, 3, 18, 19]) <|
      .dn (.reg (
        .op (some 10) (.mov (.t 4)) <|
        .op (some 11) (.bin .add (.t 10) (.k (.int .i64 1))) <|
        .op (some 4) (.mov (.t 11)) <|
        .nil)) [10, 11]))) [0, 4, 6, 7, 8, 9, 12, 13, 14, 5, 15, 16, 17, 3, 18, 19, 10, 11]) <|
  .seq (.dn (.reg (
    .op (some 20) (.ld (some 256) (.t 2)) <|
    .op none (.sto (some 256) (.t 2) (.t 20)) <|
    .op (some 3) (.mov (.k (.bool true))) <|
    .nil)) [20]) <|
  .ret
theorem ok230 : FnOk Tryz.prog 230 21 ir230 [.cell 2 (some 256), .tmp 3] := FnOk.of Tryz.func230 (by kernel_rfl) (by kernel_rfl) (by kernel_rfl) (by kernel_rfl)
/-- (*strings.asciiSet).contains -/
def ir231 : Ic :=
  .seq (.dn (.reg (
    .op (some 4) (.mov (.k (.bool false))) <|
    .nil)) [4]) <|
  .seq (.dn (.reg (
    .op (some 5) (.mov (.t 0)) <|
    .op (some 6) (.mov (.t 1)) <|
    .op (some 7) (.nck (.t 5)) <|
    .op (some 8) (.ixr 256 1 (.t 7) (.t 6)) <|
    .op (some 9) (.ld none (.t 8)) <|
    .op (some 4) (.mov (.t 9)) <|
    .nil)) [0, 1, 5, 6, 7, 8, 9]) <|
  .ret
theorem ok231 : FnOk Tryz.prog 231 10 ir231 [.tmp 4] := FnOk.of Tryz.func231 (by kernel_rfl) (by kernel_rfl) (by kernel_rfl) (by kernel_rfl)
/-- internal/stringslite.HasPrefix -/
def ir232 : Ic :=
  .seq (.dn (.reg (
    .op (some 4) (.mov (.k (.bool false))) <|
    .nil)) [4]) <|
  .seq (.dn (.reg (
    .op (some 5) (.mov (.t 0)) <|
    .op (some 6) (.slen (.t 5)) <|
    .op (some 7) (.mov (.t 1)) <|
    .op (some 8) (.slen (.t 7)) <|
    .op (some 9) (.bin .geq (.t 6) (.t 8)) <|
    .op (some 10) (.mov (.t 9)) <|
    .sc 10 true (
      .op (some 11) (.mov (.t 0)) <|
      .op (some 12) (.mov (.t 1)) <|
      .op (some 13) (.slen (.t 12)) <|
      .op (some 14) (.sls (.t 11) none (some (.t 13))) <|
      .op (some 15) (.mov (.t 1)) <|
      .op (some 16) (.bin .seq (.t 14) (.t 15)) <|
      .nil) (.t 16) 17 <|
    .op (some 4) (.mov (.t 17)) <|
    .nil)) [0, 1, 5, 6, 7, 8, 9, 10, 11, 12, 13, 14, 15, 16, 17]) <|
  .ret
theorem ok232 : FnOk Tryz.prog 232 18 ir232 [.tmp 4] := FnOk.of Tryz.func232 (by kernel_rfl) (by kernel_rfl) (by kernel_rfl) (by kernel_rfl)
/-- internal/stringslite.Cut -/
def ir233 : Ic :=
  .seq (.dn (.reg (
    .op (some 4) (.mov (.k (.str []))) <|
    .op (some 5) (.mov (.k (.str []))) <|
    .op (some 6) (.mov (.k (.bool false))) <|
    .nil)) [4, 5, 6]) <|
  .seq (.seq (.dn (.reg (
    .op (some 8) (.mov (.t 0)) <|
    .op (some 9) (.mov (.t 1)) <|
    .call (some 10) (.fn 313) [(.t 8), (.t 9)] <|
    .op (some 7) (.mov (.t 10)) <|
    .nil)) [8, 9, 10]) <|
  .seq (.dn (.reg (
    .op (some 11) (.mov (.t 7)) <|
    .op (some 12) (.bin .geq (.t 11) (.k (.int .i64 0))) <|
    .nil)) [11]) <|
  .dn (.ite (.t 12) (.seq (.dn (.reg (
      .op (some 13) (.mov (.t 0)) <|
      .op (some 14) (.mov (.t 7)) <|
      .op (some 15) (.sls (.t 13) none (some (.t 14))) <|
      .op (some 16) (.mov (.t 0)) <|
      .op (some 17) (.mov (.t 7)) <|
      .op (some 18) (.mov (.t 1)) <|
      .op (some 19) (.slen (.t 18)) <|
      .op (some 20) (.bin .add (.t 17) (.t 19)) <|
      .op (some 21) (.sls (.t 16) (some (.t 20)) none) <|
      .op (some 4) (.mov (.t 15)) <|
      .op (some 5) (.mov (.t 21)) <|
      .op (some 6) (.mov (.k (.bool true))) <|
      .nil)) [0, 1, 7, 12, 13, 14, 15, 16, 17, 18, 19, 20, 21]) <|
    .ret)
    (.skip)) [4, 5, 6, 1, 7, 12]) <|
  .seq (.dn (.reg (
    .op (some 22) (.mov (.t 0)) <|
    .op (some 4) (.mov (.t 22)) <|
    .op (some 5) (.mov (.k (.str []))) <|
    .op (some 6) (.mov (.k (.bool false))) <|
    .nil)) [0, 22]) <|
  .ret
theorem ok233 : FnOk Tryz.prog 233 23 ir233 [.tmp 4, .tmp 5, .tmp 6] := FnOk.of Tryz.func233 (by kernel_rfl) (by kernel_rfl) (by kernel_rfl) (by kernel_rfl)
/-- strings.IndexByte -/
def ir309 : Ic :=
  .seq (.dn (.reg (
    .op (some 4) (.mov (.k (.int .i64 0))) <|
    .nil)) [4]) <|
  .seq (.dn (.reg (
    .op (some 5) (.mov (.t 0)) <|
    .op (some 6) (.mov (.t 1)) <|
    .call (some 7) (.fn 374) [(.t 5), (.t 6)] <|
    .op (some 4) (.mov (.t 7)) <|
    .nil)) [0, 1, 5, 6, 7]) <|
  .ret
theorem ok309 : FnOk Tryz.prog 309 8 ir309 [.tmp 4] := FnOk.of Tryz.func309 (by kernel_rfl) (by kernel_rfl) (by kernel_rfl) (by kernel_rfl)
/-- unicode/utf8.ValidRune -/
def ir310 : Ic :=
  .seq (.dn (.reg (
    .op (some 2) (.mov (.k (.bool false))) <|
    .nil)) [2]) <|
  .seq (.dn (.block 0 (
    .seq (.dn (.reg (
      .op (some 4) (.mov (.t 0)) <|
      .op (some 5) (.bin .leq (.k (.int .i32 0)) (.t 4)) <|
      .op (some 6) (.mov (.t 5)) <|
      .sc 6 true (
        .op (some 7) (.mov (.t 0)) <|
        .op (some 8) (.bin .lss (.t 7) (.k (.int .i32 55296))) <|
        .nil) (.t 8) 9 <|
      .op (some 3) (.mov (.t 9)) <|
      .nil)) [4, 5, 6, 7, 8, 9]) <|
    .dn (.ite (.t 3) (.seq (.dn (.reg (
        .op (some 2) (.mov (.k (.bool true))) <|
        .nil)) [0, 3]) <|
      .ret)
      (.seq (.dn (.reg (
        .op (some 11) (.mov (.t 0)) <|
        .op (some 12) (.bin .lss (.k (.int .i32 57343)) (.t 11)) <|
        .op (some 13) (.mov (.t 12)) <|
        .sc 13 true (
          .op (some 14) (.mov (.t 0)) <|
          .op (some 15) (.bin .leq (.t 14) (.k (.int .i32 1114111))) <|
          .nil) (.t 15) 16 <|
        .op (some 10) (.mov (.t 16)) <|
        .nil)) [0, 3, 11, 12, 13, 14, 15, 16]) <|
      .dn (.ite (.t 10) (.seq (.dn (.reg (
          .op (some 2) (.mov (.k (.bool true))) <|
          .nil)) [10]) <|
        .ret)
        (.skip)) [2, 10])) [2])) [0, 4, 5, 6, 7, 8, 9, 3, 2, 11, 12, 13, 14, 15, 16, 10]) <|
  .seq (.reg (
    .op (some 2) (.mov (.k (.bool false))) <|
    .nil)) <|
  .ret
theorem ok310 : FnOk Tryz.prog 310 17 ir310 [.tmp 2] := FnOk.of Tryz.func310 (by kernel_rfl) (by kernel_rfl) (by kernel_rfl) (by kernel_rfl)
/-- internal/stringslite.Index -/
def ir313 : Ic :=
  .seq (.dn (.reg (
    .op (some 4) (.mov (.k (.int .i64 0))) <|
    .nil)) [4]) <|
  .seq (.dn (.reg (
    .op (some 14) (.mov (.t 1)) <|
    .op (some 15) (.slen (.t 14)) <|
    .op (some 5) (.mov (.t 15)) <|
    .nil)) [14, 15]) <|
  .seq (.dn (.block 0 (
    .seq (.dn (.reg (
      .op (some 17) (.mov (.t 5)) <|
      .op (some 18) (.bin .eql (.t 17) (.k (.int .i64 0))) <|
      .op (some 19) (.mov (.t 18)) <|
      .sc 19 false (
        .op (some 20) (.mov (.t 1)) <|
        .op (some 21) (.mov (.t 0)) <|
        .op (some 22) (.bin .seq (.t 20) (.t 21)) <|
        .nil) (.t 22) 23 <|
      .op (some 16) (.mov (.t 23)) <|
      .nil)) [17, 18, 19, 20, 21, 22, 23]) <|
    .dn (.ite (.t 16) (.seq (.dn (.reg (
        .op (some 4) (.mov (.k (.int .i64 0))) <|
        .nil)) [0, 1, 5, 16]) <|
      .ret)
      (.seq (.dn (.reg (
        .op (some 25) (.mov (.t 5)) <|
        .op (some 26) (.bin .eql (.t 25) (.k (.int .i64 1))) <|
        .op (some 24) (.mov (.t 26)) <|
        .nil)) [16, 25, 26]) <|
      .dn (.ite (.t 24) (.seq (.dn (.reg (
          .op (some 27) (.mov (.t 0)) <|
          .op (some 28) (.mov (.t 1)) <|
          .op (some 29) (.ixs (.t 28) (.k (.int .i64 0))) <|
          .call (some 30) (.fn 374) [(.t 27), (.t 29)] <|
          .op (some 4) (.mov (.t 30)) <|
          .nil)) [0, 1, 5, 24, 27, 28, 29, 30]) <|
        .ret)
        (.seq (.dn (.reg (
          .op (some 32) (.mov (.t 5)) <|
          .op (some 33) (.mov (.t 0)) <|
          .op (some 34) (.slen (.t 33)) <|
          .op (some 35) (.bin .geq (.t 32) (.t 34)) <|
          .op (some 31) (.mov (.t 35)) <|
          .nil)) [24, 32, 33, 34, 35]) <|
        .dn (.ite (.t 31) (.seq (.dn (.reg (
            .op (some 4) (.mov (.k (.int .i64 (-1)))) <|
            .nil)) [0, 1, 5, 31]) <|
          .ret)
          (.seq (.dn (.reg (
            .op (some 37) (.mov (.t 5)) <|
            .op (some 38) (.ld none (.k (.glo 2))) <|
            .op (some 39) (.bin .leq (.t 37) (.t 38)) <|
            .op (some 40) (.mov (.t 39)) <|
            .sc 40 true (
              .op (some 41) (.mov (.t 0)) <|
              .op (some 42) (.slen (.t 41)) <|
              .op (some 43) (.bin .leq (.t 42) (.k (.int .i64 64))) <|
              .nil) (.t 43) 44 <|
            .op (some 36) (.mov (.t 44)) <|
            .nil)) [31, 37, 38, 39, 40, 41, 42, 43, 44]) <|
          .dn (.ite (.t 36) (.seq (.dn (.reg (
              .op (some 45) (.mov (.t 0)) <|
              .op (some 46) (.mov (.t 1)) <|
              .call (some 47) (.fn 312) [(.t 45), (.t 46)] <|
              .op (some 4) (.mov (.t 47)) <|
              .nil)) [0, 1, 5, 36, 45, 46, 47]) <|
            .ret)
            (.skip)) [4, 36])) [4])) [4])) [4])) [17, 18, 19, 20, 21, 22, 23, 16, 4, 25, 26, 24, 27, 28, 29, 30, 32, 33, 34, 35, 31, 37, 38, 39, 40, 41, 42, 43, 44, 36, 45, 46, 47]) <|
  .seq (.dn (.reg (
    .op (some 48) (.mov (.t 1)) <|
    .op (some 49) (.ixs (.t 48) (.k (.int .i64 0))) <|
    .op (some 6) (.mov (.t 49)) <|
    .nil)) [48, 49]) <|
  .seq (.dn (.reg (
    .op (some 50) (.mov (.t 1)) <|
    .op (some 51) (.ixs (.t 50) (.k (.int .i64 1))) <|
    .op (some 7) (.mov (.t 51)) <|
    .nil)) [50, 51]) <|
  .seq (.reg (
    .op (some 8) (.mov (.k (.int .i64 0))) <|
    .nil)) <|
  .seq (.dn (.reg (
    .op (some 52) (.mov (.t 0)) <|
    .op (some 53) (.slen (.t 52)) <|
    .op (some 54) (.mov (.t 5)) <|
    .op (some 55) (.bin .sub (.t 53) (.t 54)) <|
    .op (some 56) (.bin .add (.t 55) (.k (.int .i64 1))) <|
    .op (some 9) (.mov (.t 56)) <|
    .nil)) [52, 53, 54, 55, 56]) <|
  .seq (.reg (
    .op (some 10) (.mov (.k (.int .i64 0))) <|
    .nil)) <|
  .seq (.dn (.block 1 (
    .loop (
      .seq (.seq (.dn (.reg (
        .op (some 57) (.mov (.t 8)) <|
        .op (some 58) (.mov (.t 9)) <|
        .op (some 59) (.bin .lss (.t 57) (.t 58)) <|
        .nil)) [57, 58]) <|
      .dn (.ite (.t 59) (.skip)
        (.exit 1)) [59]) <|
      .dn (.block 2 (
        .seq (.seq (.dn (.reg (
          .op (some 60) (.mov (.t 0)) <|
          .op (some 61) (.mov (.t 8)) <|
          .op (some 62) (.ixs (.t 60) (.t 61)) <|
          .op (some 63) (.mov (.t 6)) <|
          .op (some 64) (.bin .neq (.t 62) (.t 63)) <|
          .nil)) [60, 61, 62, 63]) <|
        .dn (.ite (.t 64) (.seq (.dn (.reg (
            .op (some 65) (.mov (.t 0)) <|
            .op (some 66) (.mov (.t 8)) <|
            .op (some 67) (.bin .add (.t 66) (.k (.int .i64 1))) <|
            .op (some 68) (.mov (.t 9)) <|
            .op (some 69) (.sls (.t 65) (some (.t 67)) (some (.t 68))) <|
            .op (some 70) (.mov (.t 6)) <|
            .call (some 71) (.fn 374) [(.t 69), (.t 70)] <|
            .op (some 11) (.mov (.t 71)) <|
            .nil)) [64, 65, 66, 67, 68, 69, 70, 71]) <|
          .seq (.seq (.dn (.reg (
            .op (some 72) (.mov (.t 11)) <|
            .op (some 73) (.bin .lss (.t 72) (.k (.int .i64 0))) <|
            .nil)) [72]) <|
          .dn (.ite (.t 73) (.seq (.dn (.reg (
              .op (some 4) (.mov (.k (.int .i64 (-1)))) <|
              .nil)) [0, 1, 5, 6, 7, 8, 9, 10, 11, 73]) <|
            .ret)
            (.skip)) [4, 73]) <|
          .dn (.reg (
            .op (some 74) (.mov (.t 8)) <|
            .op (some 75) (.mov (.t 11)) <|
            .op (some 76) (.bin .add (.t 75) (.k (.int .i64 1))) <|
            .op (some 77) (.bin .add (.t 74) (.t 76)) <|
            .op (some 8) (.mov (.t 77)) <|
            .nil)) [11, 74, 75, 76, 77])
          (.skip)) [64]) <|
        .seq (.seq (.dn (.reg (
          .op (some 78) (.mov (.t 0)) <|
          .op (some 79) (.mov (.t 8)) <|
          .op (some 80) (.bin .add (.t 79) (.k (.int .i64 1))) <|
          .op (some 81) (.ixs (.t 78) (.t 80)) <|
          .op (some 82) (.mov (.t 7)) <|
          .op (some 83) (.bin .eql (.t 81) (.t 82)) <|
          .op (some 84) (.mov (.t 83)) <|
          .sc 84 true (
            .op (some 85) (.mov (.t 0)) <|
            .op (some 86) (.mov (.t 8)) <|
            .op (some 87) (.mov (.t 8)) <|
            .op (some 88) (.mov (.t 5)) <|
            .op (some 89) (.bin .add (.t 87) (.t 88)) <|
            .op (some 90) (.sls (.t 85) (some (.t 86)) (some (.t 89))) <|
            .op (some 91) (.mov (.t 1)) <|
            .op (some 92) (.bin .seq (.t 90) (.t 91)) <|
            .nil) (.t 92) 93 <|
          .nil)) [78, 79, 80, 81, 82, 83, 84, 85, 86, 87, 88, 89, 90, 91, 92]) <|
        .dn (.ite (.t 93) (.seq (.dn (.reg (
            .op (some 94) (.mov (.t 8)) <|
            .op (some 4) (.mov (.t 94)) <|
            .nil)) [0, 1, 5, 6, 7, 8, 9, 10, 93, 94]) <|
          .ret)
          (.skip)) [4, 93]) <|
        .seq (.dn (.reg (
          .op (some 95) (.mov (.t 8)) <|
          .op (some 96) (.bin .add (.t 95) (.k (.int .i64 1))) <|
          .op (some 8) (.mov (.t 96)) <|
          .nil)) [95, 96]) <|
        .seq (.dn (.reg (
          .op (some 97) (.mov (.t 10)) <|
          .op (some 98) (.bin .add (.t 97) (.k (.int .i64 1))) <|
          .op (some 10) (.mov (.t 98)) <|
          .nil)) [97, 98]) <|
        .seq (.dn (.reg (
          .op (some 99) (.mov (.t 5)) <|
          .op (some 100) (.ld none (.k (.glo 2))) <|
          .op (some 101) (.bin .leq (.t 99) (.t 100)) <|
          .op (some 102) (.mov (.t 101)) <|
          .sc 102 true (
            .op (some 103) (.mov (.t 10)) <|
            .op (some 104) (.mov (.t 8)) <|
            .call (some 105) (.fn 311) [(.t 104)] <|
            .op (some 106) (.bin .gtr (.t 103) (.t 105)) <|
            .nil) (.t 106) 107 <|
          .nil)) [99, 100, 101, 102, 103, 104, 105, 106]) <|
        .dn (.ite (.t 107) (.seq (.dn (.reg (
            .op (some 108) (.mov (.t 0)) <|
            .op (some 109) (.mov (.t 8)) <|
            .op (some 110) (.sls (.t 108) (some (.t 109)) none) <|
            .op (some 111) (.mov (.t 1)) <|
            .call (some 112) (.fn 312) [(.t 110), (.t 111)] <|
            .op (some 12) (.mov (.t 112)) <|
            .nil)) [0, 1, 5, 6, 7, 9, 10, 107, 108, 109, 110, 111, 112]) <|
          .seq (.seq (.dn (.reg (
            .op (some 113) (.mov (.t 12)) <|
            .op (some 114) (.bin .geq (.t 113) (.k (.int .i64 0))) <|
            .nil)) [113]) <|
          .dn (.ite (.t 114) (.seq (.dn (.reg (
              .op (some 115) (.mov (.t 12)) <|
              .op (some 116) (.mov (.t 8)) <|
              .op (some 117) (.bin .add (.t 115) (.t 116)) <|
              .op (some 4) (.mov (.t 117)) <|
              .nil)) [8, 12, 114, 115, 116, 117]) <|
            .ret)
            (.skip)) [4, 8, 12, 114]) <|
          .seq (.reg (
            .op (some 4) (.mov (.k (.int .i64 (-1)))) <|
            .nil)) <|
          .ret)
          (.seq (.dn (.reg (
            .op (some 118) (.mov (.t 5)) <|
            .op (some 119) (.ld none (.k (.glo 2))) <|
            .op (some 120) (.bin .gtr (.t 118) (.t 119)) <|
            .op (some 121) (.mov (.t 120)) <|
            .sc 121 true (
              .op (some 122) (.mov (.t 10)) <|
              .op (some 123) (.mov (.t 8)) <|
              .op (some 124) (.bit .shr (.t 123) (.k (.int .u64 4))) <|
              .op (some 125) (.bin .add (.k (.int .i64 4)) (.t 124)) <|
              .op (some 126) (.bin .geq (.t 122) (.t 125)) <|
              .nil) (.t 126) 127 <|
            .op (some 128) (.mov (.t 127)) <|
            .sc 128 true (
              .op (some 129) (.mov (.t 8)) <|
              .op (some 130) (.mov (.t 9)) <|
              .op (some 131) (.bin .lss (.t 129) (.t 130)) <|
              .nil) (.t 131) 132 <|
            .nil)) [107, 118, 119, 120, 121, 122, 123, 124, 125, 126, 127, 128, 129, 130, 131]) <|
          .dn (.ite (.t 132) (.seq (.dn (.reg (
              .op (some 133) (.mov (.t 0)) <|
              .op (some 134) (.mov (.t 8)) <|
              .op (some 135) (.sls (.t 133) (some (.t 134)) none) <|
              .op (some 136) (.mov (.t 1)) <|
              .call (some 137) (.fn 375) [(.t 135), (.t 136)] <|
              .op (some 13) (.mov (.t 137)) <|
              .nil)) [0, 1, 5, 6, 7, 9, 10, 132, 133, 134, 135, 136, 137]) <|
            .seq (.seq (.dn (.reg (
              .op (some 138) (.mov (.t 13)) <|
              .op (some 139) (.bin .lss (.t 138) (.k (.int .i64 0))) <|
              .nil)) [138]) <|
            .dn (.ite (.t 139) (.seq (.dn (.reg (
                .op (some 4) (.mov (.k (.int .i64 (-1)))) <|
                .nil)) [8, 13, 139]) <|
              .ret)
              (.skip)) [4, 139]) <|
            .seq (.dn (.reg (
              .op (some 140) (.mov (.t 8)) <|
              .op (some 141) (.mov (.t 13)) <|
              .op (some 142) (.bin .add (.t 140) (.t 141)) <|
              .op (some 4) (.mov (.t 142)) <|
              .nil)) [8, 13, 140, 141, 142]) <|
            .ret)
            (.skip)) [4, 132])) [4])) [60, 61, 62, 63, 64, 65, 66, 67, 68, 69, 70, 71, 11, 72, 73, 4, 74, 75, 76, 77, 78, 79, 80, 81, 82, 83, 84, 85, 86, 87, 88, 89, 90, 91, 92, 93, 94, 95, 96, 97, 98, 99, 100, 101, 102, 103, 104, 105, 106, 107, 108, 109, 110, 111, 112, 12, 113, 114, 115, 116, 117, 118, 119, 120, 121, 122, 123, 124, 125, 126, 127, 128, 129, 130, 131, 132, 133, 134, 135, 136, 137, 13, 138, 139, 140, 141, 142]))) [0, 1, 5, 6, 7, 8, 9, 10, 57, 58, 59, 60, 61, 62, 63, 64, 65, 66, 67, 68, 69, 70, 71, 11, 72, 73, 4, 74, 75, 76, 77, 78, 79, 80, 81, 82, 83, 84, 85, 86, 87, 88, 89, 90, 91, 92, 93, 94, 95, 96, 97, 98, 99, 100, 101, 102, 103, 104, 105, 106, 107, 108, 109, 110, 111, 112, 12, 113, 114, 115, 116, 117, 118, 119, 120, 121, 122, 123, 124, 125, 126, 127, 128, 129, 130, 131, 132, 133, 134, 135, 136, 137, 13, 138, 139, 140, 141, 142]) <|
  .seq (.reg (
    .op (some 4) (.mov (.k (.int .i64 (-1)))) <|
    .nil)) <|
  .ret
theorem ok313 : FnOk Tryz.prog 313 143 ir313 [.tmp 4] := FnOk.of Tryz.func313 (by kernel_rfl) (by kernel_rfl) (by kernel_rfl) (by kernel_rfl)
/-- internal/stringslite.IndexByte -/
def ir374 : Ic :=
  .seq (.dn (.reg (
    .op (some 4) (.mov (.k (.int .i64 0))) <|
    .nil)) [4]) <|
  .seq (.dn (.reg (
    .op (some 5) (.mov (.t 0)) <|
    .op (some 6) (.mov (.t 1)) <|
    .call (some 7) (.fn 402) [(.t 5), (.t 6)] <|
    .op (some 4) (.mov (.t 7)) <|
    .nil)) [0, 1, 5, 6, 7]) <|
  .ret
theorem ok374 : FnOk Tryz.prog 374 8 ir374 [.tmp 4] := FnOk.of Tryz.func374 (by kernel_rfl) (by kernel_rfl) (by kernel_rfl) (by kernel_rfl)
end Go.Proofs

namespace Go.Proofs
open Go Av

/-- the first place of a byte -/
def ixb (s : Str) (c : Int) : Int := idxB s c.toNat.toUInt8 0

theorem ixb_le (s : Str) (c : Int) : -1 ≤ ixb s c ∧ ixb s c ≤ s.length := by
  have := idxB_le c.toNat.toUInt8 s 0
  simpa [ixb] using this

theorem walk374 (s : Str) (c : Int) : PCon Tryz.prog 374 [.str s, .int .u8 c] (.d (.int .i64 (ixb s c))) := by
  refine ok374.pcon (Nat.le_of_ble_eq_true rfl) trivial ?_
  simp only [go_sem, ir374, Nat.reduceAdd, Nat.reduceEqDiff, Nat.reduceBEq, Nat.reduceLeDiff, reduceCtorEq, ↓reduceIte]
  refine wps_call rfl (ext402 s c) trivial ?_
  simp only [go_sem, Nat.reduceAdd, Nat.reduceEqDiff, Nat.reduceBEq, Nat.reduceLeDiff, reduceCtorEq, ↓reduceIte, ixb]

theorem walk309 (s : Str) (c : Int) : PCon Tryz.prog 309 [.str s, .int .u8 c] (.d (.int .i64 (ixb s c))) := by
  refine ok309.pcon (Nat.le_of_ble_eq_true rfl) trivial ?_
  simp only [go_sem, ir309, Nat.reduceAdd, Nat.reduceEqDiff, Nat.reduceBEq, Nat.reduceLeDiff, reduceCtorEq, ↓reduceIte]
  refine wps_call rfl ((walk374 s c).call trivial) trivial ?_
  simp only [go_sem, Nat.reduceAdd, Nat.reduceEqDiff, Nat.reduceBEq, Nat.reduceLeDiff, reduceCtorEq, ↓reduceIte]

def validR (r : Int) : Bool := (decide (0 ≤ r) && decide (r < 55296)) || (decide (57343 < r) && decide (r ≤ 1114111))

theorem walk310 (r : Int) : PCon Tryz.prog 310 [.int .i32 r] (.d (.bool (validR r))) := by
  refine ok310.pcon (Nat.le_of_ble_eq_true rfl) trivial ?_
  simp only [go_sem, ir310, Nat.reduceAdd, Nat.reduceEqDiff, Nat.reduceBEq, Nat.reduceLeDiff, reduceCtorEq, ↓reduceIte]
  refine scQ_pure (decide (r < 55296)) (fun _ => ?_) ?_
  all_goals simp only [go_sem, Nat.reduceAdd, Nat.reduceEqDiff, Nat.reduceBEq, Nat.reduceLeDiff, reduceCtorEq, ↓reduceIte]
  refine ⟨fun h => ?_, fun h => ?_⟩
  · simp only [validR, h, Bool.true_or]
  refine scQ_pure (decide (r ≤ 1114111)) (fun _ => ?_) ?_
  all_goals simp only [go_sem, Nat.reduceAdd, Nat.reduceEqDiff, Nat.reduceBEq, Nat.reduceLeDiff, reduceCtorEq, ↓reduceIte]
  refine ⟨fun h2 => ?_, fun h2 => ?_⟩
  · simp only [validR, h, h2, Bool.false_or]
  · simp only [validR, h, h2, Bool.false_or]

def sgn3 : Str := [46, 91, 63]

theorem tbl_one {P : Program} {X : Ext} (hX : ExtOK P X) {f : Nat} {ds : List Dat} {v : Av} (h : tblOK P X [(f, ds, v)] = true) : PCon P f ds v := by
  rw [tblOK, tblOK, Bool.and_true] at h
  cases ev : evF P false (callF P X K1 500 40) 500 f (ds.map .d) [] with
  | none => rw [ev] at h; cases h
  | some y =>
    obtain ⟨u, fh⟩ := y
    rw [ev] at h
    simp only [Bool.and_eq_true] at h
    obtain ⟨hp, he⟩ := h
    obtain rfl := avEq_eq he
    exact ev_pcon (X := X) (K := K1) (L := 500) (n := 40) hX ev hp

theorem rune_err : PCon Tryz.prog 228 [.str sgn3, .int .i32 65533] (.d (.int .i64 (-1))) := tbl_one X1_ok (by kernel_rfl)
def as3 : List Bool := (List.range 256).map fun k => k == 46 || k == 91 || k == 63
theorem set3 : PCon Tryz.prog 230 [.str sgn3] (.tup [.d (.agg (as3.map .bool)), .d (.bool true)]) := tbl_one X1_ok (by kernel_rfl)

theorem enc_last {r : Int} (hv : Utf8.valid r = true) (h : 128 ≤ r) : ∃ l : Str, ∃ c : UInt8, (Utf8.encode r).data.toList = l ++ [c] ∧ 128 ≤ c.toNat ∧ 1 ≤ l.length ∧ l.length ≤ 3 := by
  have hc : ¬ r.toNat < 128 := by omega
  unfold Utf8.encode
  simp only [hv, if_true, hc, if_false]
  split
  · exact ⟨[_], _, rfl, by simp; omega, by simp, by simp⟩
  · split
    · exact ⟨[_, _], _, rfl, by simp; omega, by simp, by simp⟩
    · exact ⟨[_, _, _], _, rfl, by simp; omega, by simp, by simp⟩

theorem walk228 (r : Int) : ∃ n : Int, PCon Tryz.prog 228 [.str sgn3, .int .i32 r] (.d (.int .i64 n)) ∧ -1 ≤ n ∧ n ≤ 3 := by
  by_cases h0 : (0 ≤ r ∧ r < 128)
  · refine ⟨ixb sgn3 (IntKind.u8.wrap r), ?_, (ixb_le _ _).1, (ixb_le _ _).2⟩
    refine ok228.pcon (Nat.le_of_ble_eq_true rfl) trivial ?_
    have e1 : decide (0 ≤ r) = true := decide_eq_true h0.1
    have e2 : decide (r < 128) = true := decide_eq_true h0.2
    simp only [go_sem, ir228, e1, e2, Nat.reduceAdd, Nat.reduceEqDiff, Nat.reduceBEq, Nat.reduceLeDiff, reduceCtorEq, ↓reduceIte]
    refine wps_call rfl ((walk309 _ _).call trivial) trivial ?_
    simp only [go_sem, Nat.reduceAdd, Nat.reduceEqDiff, Nat.reduceBEq, Nat.reduceLeDiff, reduceCtorEq, ↓reduceIte]
  by_cases h1 : r = 65533
  · subst h1
    exact ⟨-1, rune_err, by omega, by omega⟩
  refine ⟨-1, ?_, by omega, by omega⟩
  refine ok228.pcon (Nat.le_of_ble_eq_true rfl) trivial ?_
  simp only [go_sem, ir228, Nat.reduceAdd, Nat.reduceEqDiff, Nat.reduceBEq, Nat.reduceLeDiff, reduceCtorEq, ↓reduceIte]
  refine scQ_pure (decide (r < 128)) (fun _ => ?_) ?_
  all_goals simp only [go_sem, Nat.reduceAdd, Nat.reduceEqDiff, Nat.reduceBEq, Nat.reduceLeDiff, reduceCtorEq, ↓reduceIte]
  have e0 : (decide (0 ≤ r) && decide (r < 128)) = false := by simp; omega
  have e1 : (r == 65533) = false := by simpa using h1
  simp only [go_sem, e0, e1, Nat.reduceAdd, Nat.reduceEqDiff, Nat.reduceBEq, Nat.reduceLeDiff, reduceCtorEq, ↓reduceIte]
  refine wps_call rfl ((walk310 r).call trivial) trivial ?_
  simp only [go_sem, Nat.reduceAdd, Nat.reduceEqDiff, Nat.reduceBEq, Nat.reduceLeDiff, reduceCtorEq, ↓reduceIte]
  refine ⟨fun hv => ?_, fun hv => ?_⟩
  · trivial
  have hval : Utf8.valid r = true := by
    simp only [Bool.not_eq_false'] at hv
    simp only [validR, Bool.or_eq_true, Bool.and_eq_true, decide_eq_true_eq] at hv
    simp only [Utf8.valid, Bool.and_eq_true, Bool.or_eq_true, decide_eq_true_eq, Bool.not_eq_true', decide_eq_false_iff_not]
    omega
  have hr128 : 128 ≤ r := by
    simp only [Bool.not_eq_false'] at hv
    simp only [validR, Bool.or_eq_true, Bool.and_eq_true, decide_eq_true_eq] at hv
    omega
  obtain ⟨l, c, he, hc1, hl1, hl2⟩ := enc_last hval hr128
  rw [he]
  have hw : IntKind.i64.wrap (((l ++ [c]).length : Int) - 1) = (l.length : Int) := by
    rw [List.length_append, List.length_singleton]
    rw [wrap64 (by omega) (by omega)]; omega
  rw [hw]
  have hnx : ∀ t : Str, (∀ b ∈ t, b.toNat < 128) → ixb t (c.toNat : Int) = -1 := by
    intro t ht
    have hk : ∀ (t : Str) k, (∀ b ∈ t, b.toNat < 128) → idxB t c k = -1 := by
      intro t
      induction t with
      | nil => intro k _; rfl
      | cons b t ih =>
        intro k ht
        have hb := ht b List.mem_cons_self
        have hne : (b == c) = false := by
          rw [beq_eq_false_iff_ne]; rintro rfl; omega
        rw [idxB, hne]
        exact ih (k + 1) fun b hb => ht b (List.mem_cons_of_mem _ hb)
    have e : (c.toNat : Int).toNat.toUInt8 = c := by simp
    rw [ixb, e]
    exact hk t 0 ht
  have hg : ((l ++ [c]).getD l.length 0) = c := by simp
  refine wpc_loop (fun n s => n = 0 ∧ s = ⟨[(0, .d (.str sgn3)), (7, .d (.str (l ++ [c]))), (8, .d (.int .i64 l.length)), (9, .d (.int .i64 l.length))], []⟩) ⟨0, _, Wk.refl _, rfl, rfl⟩ ?_
  rintro n s ⟨rfl, rfl⟩
  have k1 : ((1 : Nat) : Int) = 1 := rfl
  have k2 : ((3 : Nat) : Int) = 3 := rfl
  have k3 : ((2 : Nat) : Int) = 2 := rfl
  rcases (by omega : l.length = 1 ∨ l.length = 2 ∨ l.length = 3) with h | h | h
  · rw [h] at hg ⊢
    have hlen : (l ++ [c]).length = 2 := by simp [h]
    have t1 : Int.toNat 1 = 1 := rfl
    simp only [go_sem, sgn3, hlen, hg, k1, k2, k3, t1, List.length_cons, List.length_nil, Nat.reduceAdd, Nat.reduceEqDiff, Nat.reduceBEq, Nat.reduceLeDiff, reduceCtorEq, ↓reduceIte]
    refine ⟨fun _ => ⟨⟨by decide, by decide⟩, ⟨by decide, by decide⟩, fun _ => ⟨⟨by decide, by decide, by decide⟩, ⟨by decide, by decide⟩, ?_⟩, fun hne => ?_⟩, fun h => by simp at h⟩
    · refine wps_call rfl ((walk309 _ _).call trivial) trivial ?_
      rw [hnx _ (by decide)]
      simp only [go_sem, Nat.reduceAdd, Nat.reduceEqDiff, Nat.reduceBEq, Nat.reduceLeDiff, reduceCtorEq, ↓reduceIte]
      refine ⟨fun _ => ?_, fun h => by simp at h⟩
      trivial
    · exfalso
      simp only [bne_eq_false_iff_eq, Int.ofNat_inj] at hne
      have : UInt8.toNat 91 < 128 := by decide
      omega
  · rw [h] at hg ⊢
    have hlen : (l ++ [c]).length = 3 := by simp [h]
    have t1 : Int.toNat 2 = 2 := rfl
    simp only [go_sem, sgn3, hlen, hg, k1, k2, k3, t1, List.length_cons, List.length_nil, Nat.reduceAdd, Nat.reduceEqDiff, Nat.reduceBEq, Nat.reduceLeDiff, reduceCtorEq, ↓reduceIte]
    refine ⟨fun _ => ⟨⟨by decide, by decide⟩, ⟨by decide, by decide⟩, fun _ => ⟨⟨by decide, by decide, by decide⟩, ⟨by decide, by decide⟩, ?_⟩, fun hne => ?_⟩, fun h => by simp at h⟩
    · refine wps_call rfl ((walk309 _ _).call trivial) trivial ?_
      rw [hnx _ (by decide)]
      simp only [go_sem, Nat.reduceAdd, Nat.reduceEqDiff, Nat.reduceBEq, Nat.reduceLeDiff, reduceCtorEq, ↓reduceIte]
      refine ⟨fun _ => ?_, fun h => by simp at h⟩
      trivial
    · exfalso
      simp only [bne_eq_false_iff_eq, Int.ofNat_inj] at hne
      have : UInt8.toNat 63 < 128 := by decide
      omega
  · rw [h] at hg ⊢
    have hlen : (l ++ [c]).length = 4 := by simp [h]
    simp only [go_sem, sgn3, hlen, hg, k1, k2, k3, List.length_cons, List.length_nil, Nat.reduceAdd, Nat.reduceEqDiff, Nat.reduceBEq, Nat.reduceLeDiff, reduceCtorEq, ↓reduceIte]
    refine ⟨fun h => by simp at h, fun _ => ?_⟩
    trivial

theorem walk229 (n : Int) : PCon Tryz.prog 229 [.int .i64 n] (.d (.bool (decide (n > 8)))) := by
  refine ok229.pcon (Nat.le_of_ble_eq_true rfl) trivial ?_
  simp only [go_sem, ir229, Nat.reduceAdd, Nat.reduceEqDiff, Nat.reduceBEq, Nat.reduceLeDiff, reduceCtorEq, ↓reduceIte]

theorem idsInL_d {G : Nat → Option Av.Obj} : ∀ cs : List Dat, idsInL G (cs.map .d)
  | [] => trivial
  | _ :: r => ⟨trivial, idsInL_d r⟩
theorem renL_d (ρ : Nat → Nat) : ∀ cs : List Dat, renL ρ (cs.map .d) = cs.map .d
  | [] => rfl
  | _ :: r => by simp only [List.map_cons, renL, Av.ren, renL_d ρ r]
theorem closed_box (i : Nat) (cs : List Dat) : closed (get [(i, .box (cs.map .d))]) := by
  refine closed_of ?_
  simp only [closedH, objIn, idsInL_d, and_true]

/-- a call that only reads a variable of the caller's -/
theorem Con.ro {P : Program} {f : Nat} {ds cs : List Dat} {r : Dat} (h : Con P f (.ref 1000 0 :: ds.map .d) [(1000, .box (cs.map .d))] (.d r) []) (i : Nat) :
    CallOK P f (.ref i 0 :: ds.map .d) [(i, some (.box (cs.map .d)))] (.d r) [] := by
  have h1 : ∀ j, (get [(1000, Obj.box (cs.map .d))] j).isSome = true → j = 1000 := by
    intro j hj
    simp only [Av.get] at hj
    split at hj
    · rename_i e; exact e.symm
    · cases hj
  have := h.call (fun _ => i) (fun j hj => by rw [h1 j hj]; decide) (fun a b ha hb _ => by rw [h1 a ha, h1 b hb]) ?_ (closed_box _ _) [] (by simp) (closed_box _ _) trivial
  · have e : (ds.map Av.d).map (Av.ren fun _ => i) = ds.map Av.d := by
      rw [List.map_map]; exact List.map_congr_left fun x _ => by simp [Av.ren]
    simpa [Av.ren, Obj.ren, renL_d, e] using this
  · intro c hc
    rcases List.mem_cons.1 hc with rfl | hc
    · rfl
    · obtain ⟨x, _, rfl⟩ := List.mem_map.1 hc; trivial

theorem walk231 (bs : List Bool) (c : Nat) (hb : bs.length = 256) (hc : c < 256) :
    Con Tryz.prog 231 (.ref 1000 0 :: [Dat.int .u8 c].map .d) [(1000, .box ((bs.map .bool).map .d))] (.d (.bool (bs.getD c false))) [] := by
  refine ok231.con (k := false) (Nat.le_of_ble_eq_true rfl) (closed_box _ _) trivial ?_
  have hx : ((bs.map Dat.bool).map Av.d)[c * 1]? = some (.d (.bool (bs.getD c false))) := by simp [List.getElem?_map, List.getD_eq_getElem?_getD, hb, hc]
  simp only [List.map_cons, List.map_nil]
  simp only [go_sem, ir231, Int.toNat_natCast, hx, Nat.reduceAdd, Nat.reduceEqDiff, Nat.reduceBEq, Nat.reduceLeDiff, reduceCtorEq, ↓reduceIte]
  omega
end Go.Proofs

namespace Go.Proofs
open Go Av

noncomputable def rn (r : Int) : Int := Classical.choose (walk228 r)
theorem walk228' (r : Int) : PCon Tryz.prog 228 [.str sgn3, .int .i32 r] (.d (.int .i64 (rn r))) := (Classical.choose_spec (walk228 r)).1

theorem decode_pos (s : ByteArray) (i : Nat) : 1 ≤ (Utf8.decode s i).2 := by
  unfold Utf8.decode
  dsimp only
  repeat' split
  all_goals simp

noncomputable def rnR (s : Str) : Nat → Nat → Int
  | 0, _ => -1
  | f + 1, p => if p < s.length then (if 0 ≤ rn (Utf8.decode ⟨s.toArray⟩ p).1 then (p : Int) else rnR s f (p + (Utf8.decode ⟨s.toArray⟩ p).2)) else -1
theorem rnR_bd (s : Str) : ∀ f p, -1 ≤ rnR s f p ∧ rnR s f p < s.length
  | 0, p => by simp only [rnR]; omega
  | f + 1, p => by
    have := rnR_bd s f (p + (Utf8.decode ⟨s.toArray⟩ p).2)
    simp only [rnR]
    split
    · split
      · omega
      · exact this
    · omega

def fst3 (s : Str) : Int := match s.findIdx? (fun c => as3.getD c.toNat false) with
  | some k => (k : Int)
  | none => -1
theorem fst3_bd (s : Str) : -1 ≤ fst3 s ∧ fst3 s < s.length := by
  unfold fst3
  split
  · rename_i k h
    have := (List.findIdx?_eq_some_iff_getElem.1 h).1
    omega
  · omega

noncomputable def anyI (s : Str) : Int := if (s.length : Int) > 8 then fst3 s else rnR s (s.length + 1) 0
theorem anyI_bd (s : Str) : -1 ≤ anyI s ∧ anyI s < s.length := by
  unfold anyI
  split
  · exact fst3_bd s
  · exact rnR_bd _ _ _

theorem as3_len : as3.length = 256 := by decide
theorem splice_all {α : Type} (cs new : List α) (h : new.length = cs.length) : splice cs 0 new = new := by simp [splice, h]

theorem walk147 (s : Str) (hs : s.length ≤ 68719476736) : PCon Tryz.prog 147 [.str s, .str sgn3] (.d (.int .i64 (anyI s))) := by
  refine ok147.pcon (Nat.le_of_ble_eq_true rfl) trivial ?_
  have e1 : (sgn3 == ([] : Str)) = false := by decide
  have e2 : (((sgn3.length : Nat) : Int) == 1) = false := by decide
  simp only [go_sem, ir147, e1, e2, Nat.reduceAdd, Nat.reduceEqDiff, Nat.reduceBEq, Nat.reduceLeDiff, reduceCtorEq, ↓reduceIte]
  refine wps_call rfl ((walk229 _).call trivial) trivial ?_
  simp only [go_sem, Nat.reduceAdd, Nat.reduceEqDiff, Nat.reduceBEq, Nat.reduceLeDiff, reduceCtorEq, ↓reduceIte]
  refine ⟨fun h8 => ?_, fun h8 => ?_⟩
  · have ha : anyI s = fst3 s := by simp only [decide_eq_true_eq] at h8; unfold anyI; rw [if_pos h8]
    rw [ha]
    refine wps_call rfl (set3.call (by simp [pureR])) trivial ?_
    have hl : (List.map Av.d (List.map Dat.bool as3)).length = 256 := by simp [as3_len]
    simp only [go_sem, hl, List.length_cons, List.length_nil, Nat.reduceAdd, Nat.reduceEqDiff, Nat.reduceBEq, Nat.reduceLeDiff, reduceCtorEq, ↓reduceIte, Nat.le_refl, and_self]
    refine wpc_loop (fun n st => ∃ k : Nat, k ≤ s.length ∧ n = s.length - k ∧ (∀ (j : Nat) (h : j < s.length), j < k → as3.getD s[j].toNat false = false) ∧
      st = ⟨[(0, .d (.str s)), (6, .ref 6 0), (8, .d (.int .i64 k))], [(6, .box ((as3.map .bool).map .d))]⟩) ?_ ?_
    · exact ⟨_, _, Wk.refl _, 0, Nat.zero_le _, rfl, by simp, rfl⟩
    · rintro n st ⟨k, hk, rfl, hinv, rfl⟩
      by_cases hlt : k < s.length
      · have hd : decide ((k : Int) < (s.length : Int)) = true := by simp; omega
        have hg : s.getD k 0 = s[k] := by simp [List.getD_eq_getElem?_getD, hlt]
        simp only [go_sem, hd, hg, Int.toNat_natCast, Nat.reduceAdd, Nat.reduceEqDiff, Nat.reduceBEq, Nat.reduceLeDiff, reduceCtorEq, ↓reduceIte]
        have hc := Con.ro (walk231 as3 s[k].toNat as3_len (UInt8.toNat_lt _)) 6
        refine ⟨by omega, wps_call rfl hc ⟨rfl, trivial⟩ ?_⟩
        simp only [go_sem, Nat.reduceAdd, Nat.reduceEqDiff, Nat.reduceBEq, Nat.reduceLeDiff, reduceCtorEq, ↓reduceIte]
        refine ⟨fun hf => ?_, fun hf => ?_⟩
        · have : s.findIdx? (fun c => as3.getD c.toNat false) = some k := by
            rw [List.findIdx?_eq_some_iff_getElem]
            exact ⟨hlt, hf, fun j hj => by rw [hinv j (by omega) hj]; decide⟩
          simp only [fst3, this]
        · refine ⟨s.length - (k + 1), _, by omega, Wk.less ?_, k + 1, by omega, rfl, ?_, rfl⟩
          · simp only [go_sem, wrap64s k (by omega), idsInL_d, Nat.reduceAdd, Nat.reduceEqDiff, Nat.reduceBEq, Nat.reduceLeDiff, reduceCtorEq, ↓reduceIte]
          · intro j h hj
            by_cases e : j = k
            · subst e; exact hf
            · exact hinv j h (by omega)
      · have hd : decide ((k : Int) < (s.length : Int)) = false := by simp; omega
        simp only [go_sem, hd, Nat.reduceAdd, Nat.reduceEqDiff, Nat.reduceBEq, Nat.reduceLeDiff, reduceCtorEq, ↓reduceIte]
        have : s.findIdx? (fun c => as3.getD c.toNat false) = none := by
          rw [List.findIdx?_eq_none_iff]
          intro x hx
          obtain ⟨j, hj, rfl⟩ := List.getElem_of_mem hx
          exact hinv j hj (by omega)
        simp only [fst3, this]
  · have ha : anyI s = rnR s (s.length + 1) 0 := by simp only [decide_eq_false_iff_not] at h8; unfold anyI; rw [if_neg h8]
    rw [ha]
    generalize hR : rnR s (s.length + 1) 0 = R
    refine wpc_loop (fun n st => ∃ p : Nat, s.length < n + p ∧ R = rnR s n p ∧ st = ⟨[(1, .d (.str sgn3)), (45, .mp 45)], [(45, .sit s p)]⟩) ?_ ?_
    · exact ⟨s.length + 1, _, Wk.refl _, 0, by omega, hR.symm, rfl⟩
    · rintro n st ⟨p, hp, hr, rfl⟩
      by_cases hlt : p < s.length
      · obtain ⟨n, rfl⟩ : ∃ m, n = m + 1 := by
          cases n with
          | zero => omega
          | succ m => exact ⟨m, rfl⟩
        have hdp := decode_pos ⟨s.toArray⟩ p
        simp only [rnR, hlt, ↓reduceIte] at hr
        simp only [go_sem, hlt, Nat.reduceAdd, Nat.reduceEqDiff, Nat.reduceBEq, Nat.reduceLeDiff, reduceCtorEq, ↓reduceIte]
        refine wps_call rfl ((walk228' _).call trivial) trivial ?_
        simp only [go_sem, Nat.reduceAdd, Nat.reduceEqDiff, Nat.reduceBEq, Nat.reduceLeDiff, reduceCtorEq, ↓reduceIte]
        refine ⟨fun hf => ?_, fun hf => ?_⟩
        · simp only [decide_eq_true_eq] at hf
          have hf' : 0 ≤ rn (Utf8.decode ⟨s.toArray⟩ p).1 := hf
          rw [if_pos hf'] at hr
          rw [hr]
        · simp only [decide_eq_false_iff_not] at hf
          have hf' : ¬ 0 ≤ rn (Utf8.decode ⟨s.toArray⟩ p).1 := hf
          refine ⟨n, _, by omega, Wk.less ?_, p + (Utf8.decode ⟨s.toArray⟩ p).2, by omega, ?_, rfl⟩
          · simp only [go_sem, Nat.reduceAdd, Nat.reduceEqDiff, Nat.reduceBEq, Nat.reduceLeDiff, reduceCtorEq, ↓reduceIte]
          · rw [if_neg hf'] at hr
            exact hr
      · simp only [go_sem, hlt, Nat.reduceAdd, Nat.reduceEqDiff, Nat.reduceBEq, Nat.reduceLeDiff, reduceCtorEq, ↓reduceIte]
        have : rnR s n p = -1 := by
          cases n with
          | zero => rfl
          | succ n => simp [rnR, hlt]
        rw [hr, this]
end Go.Proofs
