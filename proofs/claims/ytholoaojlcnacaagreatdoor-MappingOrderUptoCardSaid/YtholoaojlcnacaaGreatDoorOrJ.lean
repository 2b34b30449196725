/- Part J of a proof. -/
import Derived.Test.YtholoaojlcnacaaGreatDoorFtH
import Derived.Test.YtholoaojlcnacaaGreatDoorOrI
import Derived.Test.YtholoaojlcnacaaGreatDoorFtC
import Derived.Test.YtholoaojlcnacaaGreatDoorFtA
import Derived.Laws.AppendOwn
import Derived.Shelf.SlGeneric
import Derived.Shelf.Slices.Clone
import Derived.Ground.Names2Prog
import Derived.Test.YtholoaojlcnacaaGreatDoorProg
import Derived.Laws.IdiomStrings
set_option linter.unusedVariables false
set_option linter.unusedSimpArgs false
set_option linter.unusedSectionVars false
set_option maxRecDepth 100000
namespace Go.Proofs
open Go Av
variable {v : Val}
def gtS (a b : Str) : Bool := !(strLt a b || a == b)
theorem JOr (a b : Str) : gtS a b = strLt b a := by
 unfold gtS;cases h : strLt b a with
 | true =>
  have h1 := JDc h;have h2 : (a == b) = false := by
   have := lt_ne h;simpa using fun e => this (Eq.symm e)
  rw [h1, h2]; rfl
 | false =>
  cases h1 : strLt a b with
  | true => rfl
  | false => rw [JGq h1 h]; simp
def U6 (n : Str) (l : List Fld) : Option Nat := l.findIdx? fun f => f.name == n
def atF (n : Str) (l : List Fld) : Nat := (l.findIdx? fun f => gtS f.name n).getD l.length
def Xn (v : Val) (n : Str) (x : Val) : Val × Int :=
 if v.kind ≠ 9 then (zeroV, 11) else if XK n = false then (zeroV, 12) else if Uh x = true then (zeroV, 19) else match U6 n v.fields with
  | some i => (.mk v.kind v.int v.scale v.text v.list (v.fields.set i (.mk ((v.fields[i]?.map Fld.name).getD []) x)), 0)
  | none => if (v.fields.length : Int) ≥ 64 then (zeroV, 9) else (.mk v.kind v.int v.scale v.text v.list (v.fields.take (atF n v.fields) ++ .mk n x :: v.fields.drop (atF n v.fields)), 0)
def UY (v : Val) (n : Str) : Val := if v.kind ≠ 9 then UB else match U6 n v.fields with
 | some i => ((v.fields[i]?.map Fld.value).getD zeroV)
 | none => UB
def XJ : List Part → Val → Val → Val × Int
 | [], v, _ => (v, 0)
 | p :: r, v, x => if r.isEmpty && Uh x then (v, 0) else if r.isEmpty then Xn v p.name x else
   if (XJ r (UY v p.name) x).2 ≠ 0 then (zeroV, (XJ r (UY v p.name) x).2) else Xn v p.name (XJ r (UY v p.name) x).1
theorem JIK (n : Str) (x : Val) : ∀ l : List Fld, SF l → match U6 n l with
  | some i => l.set i (.mk ((l[i]?.map Fld.name).getD []) x) = Uy l n x
  | none => l.take (atF n l) ++ .mk n x :: l.drop (atF n l) = Uy l n x
 | [], _ => by simp [U6, atF, Uy]
 | f :: r, h => by
  obtain ⟨h1, h2⟩ := List.pairwise_cons.1 h;have ih := JIK n x r h2;by_cases e : f.name = n
  ·have : U6 n (f :: r) = some 0 := by simp [U6, List.findIdx?_cons, e]
   rw [this];simp [Uy, e]
  ·by_cases p : strLt n f.name = true
   ·
    have hno : U6 n (f :: r) = none := by
     unfold U6;rw [List.findIdx?_eq_none_iff];intro g hg;have hlt : strLt n g.name = true := by
      rcases VA.1 hg with rfl | hg
      ·exact p
      ·exact JIF p (h1 g hg)
     have := lt_ne hlt;simpa using fun e => this (Eq.symm e)
    rw [hno];have hat : atF n (f :: r) = 0 := by simp [atF, List.findIdx?_cons, JOr, p]
    simp only [hat, List.take_zero, List.nil_append, List.drop_zero];simp [Uy, e, p]
   ·have hi : Uy (f :: r) n x = f :: Uy r n x := by simp [Uy, e, p]
    have hix : U6 n (f :: r) = (U6 n r).map (· + 1) := by
     unfold U6;rw [List.findIdx?_cons];simp [e]
    have hat : atF n (f :: r) = atF n r + 1 := by
     unfold atF;rw [List.findIdx?_cons];simp only [JOr, p, Vu, ↓reduceIte, Vf];cases List.findIdx? (fun g => strLt n g.name) r <;> rfl
    rw [hix, hi];cases hq : U6 n r with
    | some i =>
     rw [hq] at ih;simp only [Vj] at ih ⊢;simp only [List.set_cons_succ, List.getElem?_cons_succ, ih]
    | none =>
     rw [hq] at ih;simp only [Option.map_none] at ih ⊢;simp only [hat, List.take_succ_cons, List.drop_succ_cons, List.cons_append, ih]
theorem JFx (n : Str) : ∀ l : List Fld, (match U6 n l with
  | some i => some ((l[i]?.map Fld.value).getD zeroV)
  | none => none) = look n l
 | [] => rfl
 | f :: r => by
  have ih := JFx n r;by_cases e : f.name = n
  ·have : U6 n (f :: r) = some 0 := by simp [U6, List.findIdx?_cons, e]
   rw [this];simp [look, e]
  ·have hix : U6 n (f :: r) = (U6 n r).map (· + 1) := by
    unfold U6;rw [List.findIdx?_cons];simp [e]
   rw [hix, look, if_neg e, ← ih];cases U6 n r <;> simp
theorem JLn (h : v.kind = 9) (n : Str) : UY v n = YN v n := by
 unfold UY YN;rw [if_neg (by simp [h]), ← JFx];cases U6 n v.fields <;> rfl
theorem JIL {n : Str} {x : Val} (hk : v.kind = 9) (hn : XK n = true) (hx : Uh x = false) (hs : SF v.fields) (hl : v.fields.length < 64) : Xn v n x = (wth v n x, 0) := by
 unfold Xn;rw [if_neg (by simp [hk]), if_neg (by simp [hn]), if_neg (by simp [hx])];have := JIK n x v.fields hs;cases hq : U6 n v.fields with
 | some i => rw [hq] at this; simp only at this ⊢; rw [this]; rfl
 | none => rw [hq] at this; simp only at this ⊢; rw [if_neg oM, this]; rfl
theorem JOs (h : v.kind = 9) : Uh v = false := by
 unfold Uh;simp [h]
theorem JLo (p q : Part) (r : List Part) (v x : Val) : XJ (p :: q :: r) v x = if (XJ (q :: r) (UY v p.name) x).2 ≠ 0 then (zeroV, (XJ (q :: r) (UY v p.name) x).2) else Xn v p.name (XJ (q :: r) (UY v p.name) x).1 := by
 conv => lhs; unfold XJ
 rw [if_neg sP, if_neg sP]
theorem JKx : ∀ (l : List Part) {S : List (List Str)} {v : Val} (x : Val), l ≠ [] → (∀ p ∈ l, XK p.name = true) → Inv S v → (∀ s ∈ S, Xw (Up l) s) → S.length < 64 → XJ l v x = (YE (Up l) v x, 0)
 | [], _, _, _, h, _, _, _, _ => absurd rfl h
 | p :: r, S, v, x, _, hn, hi, ha, hS => by
  have hp := hn p Vh;have hlen := hi.len;cases r with
  | nil =>
   by_cases hx : Uh x = true
   ·simp [XJ, Up, YE, hx]
   ·have hx' : Uh x = false := sX hx;have := JIL hi.kind hp hx' hi.sf oM;simp [XJ, Up, YE, hx', this]
  | cons q r =>
   have hr : Up (q :: r) ≠ [] := by simp [Up]
   obtain ⟨g1, g2⟩ := hi.inner (n := p.name) hr ha;have ht := JLl S p.name;have ih := JKx (q :: r) x sP (fun y hy => hn y (Vn _ hy)) g1 g2 oM;have hk : (YE (Up (q :: r)) (YN v p.name) x).kind = 9 := (Inv.put (Up (q :: r)) x hr g1 g2).kind;have e : Up (p :: q :: r) = p.name :: Up (q :: r) := rfl;rw [e, UE hr];rw [JLo, JLn hi.kind, ih, if_neg sP];exact JIL hi.kind hp (JOs hk) hi.sf oM
noncomputable def UO (ev : Exp → Val × Int) (rq : List Part → Bool) : List Rule → Val → Int → Bool → Val × Int × Bool × Int
 | [], out, full, ab => (out, full, ab, 0)
 | r :: m, out, full, ab => if (ev r.expr).2 ≠ 0 then (out, full, ab, (ev r.expr).2) else
   if full = 0 then UO ev rq m (XJ (JH r.target).1 out (ev r.expr).1).1 (XJ (JH r.target).1 out (ev r.expr).1).2 (ab || (Uh (ev r.expr).1 && rq (JH r.target).1))
   else UO ev rq m out full (ab || (Uh (ev r.expr).1 && rq (JH r.target).1))
noncomputable def pairR (ev : Exp → Val × Int) (r : Rule) : List Str × Val := (Up (JH r.target).1, (ev r.expr).1)
noncomputable def abR (ev : Exp → Val × Int) (rq : List Part → Bool) (r : Rule) : Bool := Uh (ev r.expr).1 && rq (JH r.target).1
theorem JGr (ev : Exp → Val × Int) (rq : List Part → Bool) : ∀ (m : List Rule) {S : List (List Str)} {out : Val} (ab : Bool), formed m → (∀ r ∈ m, (ev r.expr).2 = 0) → Inv S out →
  (∀ r ∈ m, ∀ s ∈ S, Xw (Up (JH r.target).1) s) → S.length + m.length ≤ 64 → UO ev rq m out 0 ab = (Xm out (m.map (pairR ev)), 0, ab || m.any (abR ev rq), 0)
 | [], S, out, ab, _, _, _, _, _ => by simp [UO, Xm]
 | r :: m, S, out, ab, hf, he, hi, ha, hl => by
  obtain ⟨f1, f2⟩ := hf.1 r Vh;obtain ⟨p1, p2, _⟩ := JCp f1;have hv := JDD p2 f2;have hn := List.pairwise_cons.1 (JB7 hf);have hS := ha r Vh;simp only [Vf] at hl;have hput := JKx (JH r.target).1 (ev r.expr).1 p1 (fun p hp => (hv p hp).2.2) hi hS oM;have hne : Up (JH r.target).1 ≠ [] := by simpa [Up] using p1
  have hi' := Inv.put (Up (JH r.target).1) (ev r.expr).1 hne hi hS;rw [UO, if_neg (by simp [he r Vh]), if_pos rfl, hput];have hf' : formed m := ⟨fun s hs => hf.1 s (Vn _ hs), (List.pairwise_cons.1 hf.2).2⟩;have ih := JGr ev rq m (ab || abR ev rq r) hf' (fun s hs => he s (Vn _ hs)) hi' (fun s hs t ht => by
   rcases VA.1 ht with rfl | ht
   ·exact JAG (hn.1 s hs)
   ·exact ha s (Vn _ hs) t ht) (by simp only [Vf]; omega)
  show UO ev rq m (YE _ out _) 0 (ab || abR ev rq r) = _;rw [ih];simp only [Va, List.any_cons, Bool.or_assoc, Xm, List.foldl_cons, pairR]
theorem JAe (ev : Exp → Val × Int) (rq : List Part → Bool) : ∀ (m : List Rule) (out : Val) (full : Int) (ab : Bool), (∃ r ∈ m, (ev r.expr).2 ≠ 0) → (UO ev rq m out full ab).2.2.2 ≠ 0
 | [], _, _, _, h => by obtain ⟨r, hr, _⟩ := h; cases hr
 | r :: m, out, full, ab, h => by
  rw [UO];split
  ·rename_i h1; exact h1
  ·rename_i h1;have h' : ∃ s ∈ m, (ev s.expr).2 ≠ 0 := by
    obtain ⟨s, hs, h2⟩ := h;rcases VA.1 hs with rfl | hs
    ·exact absurd h2 h1
    ·exact ⟨s, hs, h2⟩
   split
   ·exact JAe ev rq m _ _ _ h'
   ·exact JAe ev rq m _ _ _ h'
theorem JOt (ev : Exp → Val × Int) (rq : List Part → Bool) (m : List Rule) (hf : formed m) (hl : m.length ≤ 64) :
  ((UO ev rq m.reverse UB 0 false).2.2.2 ≠ 0 ∧ (UO ev rq m UB 0 false).2.2.2 ≠ 0) ∨ UO ev rq m.reverse UB 0 false = UO ev rq m UB 0 false := by
 by_cases h : ∃ r ∈ m, (ev r.expr).2 ≠ 0
 ·left;refine ⟨JAe ev rq _ _ _ _ ?_, JAe ev rq _ _ _ _ h⟩
  obtain ⟨r, hr, h1⟩ := h;exact ⟨r, List.mem_reverse.2 hr, h1⟩
 ·right;have he : ∀ r ∈ m, (ev r.expr).2 = 0 := fun r hr => by
   by_cases e : (ev r.expr).2 = 0
   ·exact e
   ·exact absurd ⟨r, hr, e⟩ h
  rw [JGr ev rq m.reverse false (JBI hf) (fun r hr => he r (List.mem_reverse.1 hr)) Inv.nil sP (sX hl), JGr ev rq m false hf he Inv.nil sP (sX hl)];rw [List.map_reverse, JEv, List.any_reverse];rw [List.pairwise_map];exact JB7 hf
end Go.Proofs
namespace Go.Proofs
open Go Av
mutual
def smV : Val → Int → Int → Bool × Int
 | .mk _ _ _ t l f, d, n =>
  if decide (IntKind.i64.wrap (n - 1) < 0) || d == 0 || decide ((t.length : Int) > 2000) then (false, IntKind.i64.wrap (n - 1))
  else if (JAo l (IntKind.i64.wrap (d - 1)) (IntKind.i64.wrap (n - 1))).1 then JB8 f (IntKind.i64.wrap (d - 1)) (JAo l (IntKind.i64.wrap (d - 1)) (IntKind.i64.wrap (n - 1))).2
  else (false, (JAo l (IntKind.i64.wrap (d - 1)) (IntKind.i64.wrap (n - 1))).2)
def JAo : List Val → Int → Int → Bool × Int
 | [], _, n => (true, n)
 | v :: r, d, n => if (smV v d n).1 then JAo r d (smV v d n).2 else (false, (smV v d n).2)
def JB8 : List Fld → Int → Int → Bool × Int
 | [], _, n => (true, n)
 | .mk s v :: r, d, n => if decide ((s.length : Int) > 100) then (false, n) else if (smV v d n).1 then JB8 r d (smV v d n).2 else (false, (smV v d n).2)
end
theorem JOu (a : Val) (d n : Int) : smV a d n = if decide (IntKind.i64.wrap (n - 1) < 0) || d == 0 || decide ((a.text.length : Int) > 2000) then (false, IntKind.i64.wrap (n - 1))
  else if (JAo a.list (IntKind.i64.wrap (d - 1)) (IntKind.i64.wrap (n - 1))).1 then JB8 a.fields (IntKind.i64.wrap (d - 1)) (JAo a.list (IntKind.i64.wrap (d - 1)) (IntKind.i64.wrap (n - 1))).2
  else (false, (JAo a.list (IntKind.i64.wrap (d - 1)) (IntKind.i64.wrap (n - 1))).2) := by
 cases a; rw [smV]; rfl
theorem JLp (x : Fld) (r : List Fld) (d n : Int) : JB8 (x :: r) d n = if decide ((x.name.length : Int) > 100) then (false, n) else if (smV x.value d n).1 then JB8 r d (smV x.value d n).2 else (false, (smV x.value d n).2) := by
 cases x; rw [JB8]; rfl
theorem step39 (a : Val) (d n : Int) (ha : a.list.length ≤ 68719476736) (ha2 : a.fields.length ≤ 68719476736)
  (h1 : ∀ x ∈ a.list, ∀ d n, KT 39 [.d (JB x), .d (.int .i64 d), .ref 1000 0] [(1000, .box [.d (.int .i64 n)])] (.d (.bool (smV x d n).1)) [(1000, .box [.d (.int .i64 (smV x d n).2)])])
  (h2 : ∀ x ∈ a.fields, ∀ d n, KT 39 [.d (JB x.value), .d (.int .i64 d), .ref 1000 0] [(1000, .box [.d (.int .i64 n)])] (.d (.bool (smV x.value d n).1)) [(1000, .box [.d (.int .i64 (smV x.value d n).2)])]) :
  KT 39 [.d (JB a), .d (.int .i64 d), .ref 1000 0] [(1000, .box [.d (.int .i64 n)])] (.d (.bool (smV a d n).1)) [(1000, .box [.d (.int .i64 (smV a d n).2)])] := by
 refine ok39.co (k := false) (Jd (by simp [UA, put, Jc, J4, JP, JW])) trivial ?_;rw [JA];simp only [go_sem, ir39, Nat.reduceAdd, Nat.reduceEqDiff, Nat.reduceBEq, Nat.reduceLeDiff, reduceCtorEq, ↓reduceIte];refine sq (d == 0) ?_ ?_
 all_goals simp only [go_sem, Nat.reduceAdd, Nat.reduceEqDiff, Nat.reduceBEq, Nat.reduceLeDiff, reduceCtorEq, ↓reduceIte]
 refine sq (decide ((a.text.length : Int) > 2000)) ?_ ?_
 all_goals simp only [go_sem, Nat.reduceAdd, Nat.reduceEqDiff, Nat.reduceBEq, Nat.reduceLeDiff, reduceCtorEq, ↓reduceIte]
 apply ik <;> intro hb
 ·simp only [JOu a d n, hb, and_self, ↓reduceIte]
 rw [JOu a d n, hb];simp only [Vu, ↓reduceIte];generalize hw : IntKind.i64.wrap (n - 1) = w;generalize hd1 : IntKind.i64.wrap (d - 1) = d1;refine JJ (fun r s => ∃ (k : Nat) (m : Int), k ≤ a.list.length ∧ r = a.list.length - k ∧ JAo a.list d1 w = JAo (a.list.drop k) d1 m ∧
  s = ⟨[(1, .d (.int .i64 d)), (2, .ref 1000 0), (3, .ref 3 0), (7, .d (.int .i64 k))],
   [(1000, .box [.d (.int .i64 m)]), (3, .box [.d (.int .i64 a.kind), .d (.int .i64 a.int), .d (.int .i64 a.scale), .d (.str a.text), .d (.list 6 (a.list.map JB)), .d (.list 7 (a.fields.map Jh))])]⟩) ?_ ?_
 ·exact ⟨_, _, Wk.refl _, 0, w, Nat.zero_le _, rfl, rfl, rfl⟩
 ·rintro r s ⟨k, m, hk, rfl, hinv, rfl⟩;by_cases hlt : k < a.list.length
  ·have hx := Jy hlt;have hd := dT hlt;refine zz60 ?_;have hc := (h1 a.list[k] (Vk _) d1 m).cnt (ds := [JB a.list[k], .int .i64 d1]) 1000;rw [JA] at hc;refine ⟨oM, wn hc ?_⟩;refine zz ?_;rw [Vq hlt, JAo] at hinv;apply ik <;> intro hf
   ·simp only [Bool.not_eq_true'] at hf;rw [hf] at hinv;simp only [Vu, ↓reduceIte] at hinv;rw [hinv];exact zz trivial
   ·simp only [Bool.not_eq_false'] at hf;rw [hf] at hinv;simp only [↓reduceIte] at hinv;refine ⟨a.list.length - (k + 1), _, oM, Wk.less ?_, k + 1, (smV a.list[k] d1 m).2, oM, rfl, hinv, rfl⟩;exact Y6 trivial
  ·have hd := dF hlt;obtain rfl : k = a.list.length := oM;rw [List.drop_length, JAo] at hinv;refine JM8 ?_;refine JJ (fun r s => ∃ (k : Nat) (m' : Int), k ≤ a.fields.length ∧ r = a.fields.length - k ∧ JB8 a.fields d1 m = JB8 (a.fields.drop k) d1 m' ∧
    s = ⟨[(1, .d (.int .i64 d)), (2, .ref 1000 0), (3, .ref 3 0), (8, .d (.int .i64 k))],
     [(1000, .box [.d (.int .i64 m')]), (3, .box [.d (.int .i64 a.kind), .d (.int .i64 a.int), .d (.int .i64 a.scale), .d (.str a.text), .d (.list 6 (a.list.map JB)), .d (.list 7 (a.fields.map Jh))])]⟩) ?_ ?_
   ·exact ⟨_, _, Wk.refl _, 0, m, Nat.zero_le _, rfl, rfl, rfl⟩
   ·clear hinv;rintro r s ⟨k, m', hk, rfl, hinv, rfl⟩;by_cases hlt : k < a.fields.length
    ·have hx := J5 hlt;have hd := dT hlt;have hc := (h2 a.fields[k] (Vk _) d1 m').cnt (ds := [JB a.fields[k].value, .int .i64 d1]) 1000;rw [JA] at hc;rw [Vq hlt] at hinv;rw [JLp] at hinv;by_cases hg : (a.fields[k].name.length : Int) > 100
     ·have hg' : decide ((a.fields[k].name.length : Int) > 100) = true := sX hg;rw [hg'] at hinv;simp only [↓reduceIte] at hinv;simp only [go_sem, hx, hd, hd1, hg', hinv, Vv, Vc, Nat.reduceAdd, Nat.reduceEqDiff, Nat.reduceBEq, Nat.reduceLeDiff, reduceCtorEq, ↓reduceIte];exact ⟨oM, dC⟩
     ·have hg' : decide ((a.fields[k].name.length : Int) > 100) = false := sX hg;rw [hg'] at hinv;simp only [Vu, ↓reduceIte] at hinv;simp only [go_sem, hx, hd, hd1, hg', Vv, Vc, Nat.reduceAdd, Nat.reduceEqDiff, Nat.reduceBEq, Nat.reduceLeDiff, reduceCtorEq, ↓reduceIte];refine ⟨oM, dC, oM, ?_⟩;refine wc hc ?_
      ·apply ik <;> intro hf
       ·simp only [Bool.not_eq_true'] at hf;rw [hf] at hinv;simp only [Vu, ↓reduceIte] at hinv;rw [hinv];exact zz trivial
       ·simp only [Bool.not_eq_false'] at hf;rw [hf] at hinv;simp only [↓reduceIte] at hinv;refine ⟨a.fields.length - (k + 1), _, oM, Wk.less ?_, k + 1, (smV a.fields[k].value d1 m').2, oM, rfl, hinv, rfl⟩;exact Y6 trivial
    ·have hd := dF hlt;obtain rfl : k = a.fields.length := oM;rw [List.drop_length, JB8] at hinv;exact JM8 trivial
mutual
theorem JJf : ∀ (a : Val), okV a → ∀ d n, KT 39 [.d (JB a), .d (.int .i64 d), .ref 1000 0] [(1000, .box [.d (.int .i64 n)])] (.d (.bool (smV a d n).1)) [(1000, .box [.d (.int .i64 (smV a d n).2)])]
 | .mk k i s t l f, ha, d, n => by
  simp only [okV] at ha;obtain ⟨a1, a2, a3, a4⟩ := ha;exact step39 _ d n a1 a2 (fun x hx d n => JKy l a3 x hx d n) (fun x hx d n => JKz f a4 x hx d n)
theorem JKy : ∀ (l : List Val), Yw l → ∀ x ∈ l, ∀ d n, KT 39 [.d (JB x), .d (.int .i64 d), .ref 1000 0] [(1000, .box [.d (.int .i64 n)])] (.d (.bool (smV x d n).1)) [(1000, .box [.d (.int .i64 (smV x d n).2)])]
 | [], _, x, h, _, _ => by cases h
 | v :: r, ho, x, h, d, n => by
  simp only [Yw] at ho;by_cases e : x = v
  ·rw [e]; exact JJf v ho.1 d n
  ·exact JKy r ho.2 x ((VA.1 h).resolve_left e) d n
theorem JKz : ∀ (l : List Fld), ZE l → ∀ x ∈ l, ∀ d n, KT 39 [.d (JB x.value), .d (.int .i64 d), .ref 1000 0] [(1000, .box [.d (.int .i64 n)])] (.d (.bool (smV x.value d n).1)) [(1000, .box [.d (.int .i64 (smV x.value d n).2)])]
 | [], _, x, h, _, _ => by cases h
 | .mk n' v :: r, ho, x, h, d, n => by
  simp only [ZE, okF] at ho;by_cases e : x = .mk n' v
  ·rw [e]; exact JJf v ho.1 d n
  ·exact JKz r ho.2 x ((VA.1 h).resolve_left e) d n
end
def XD (a : Val) : Bool := (smV a 12 300).1
theorem JOv (a : Val) (ha : okV a) : PT 10 [JB a] (.d (.bool (XD a))) := by
 refine ok10.pc ?_;have hc := (JJf a ha 12 300).cnt (ds := [JB a, .int .i64 12]) 3;rw [JA] at hc ⊢;simp only [go_sem, ir10, simprocAttr];refine wc hc ?_;rfl
mutual
def smE : Exp → Int → Int → Bool × Int
 | .mk _ _ t v a, d, n =>
  if decide (IntKind.i64.wrap (n - 1) < 0) || d == 0 || decide ((t.length : Int) > 2000) || decide ((v.length : Int) > 3) then (false, IntKind.i64.wrap (n - 1))
  else if v.all XD then JJg a (IntKind.i64.wrap (d - 1)) (IntKind.i64.wrap (n - 1)) else (false, IntKind.i64.wrap (n - 1))
def JJg : List Exp → Int → Int → Bool × Int
 | [], _, n => (true, n)
 | v :: r, d, n => if (smE v d n).1 then JJg r d (smE v d n).2 else (false, (smE v d n).2)
end
theorem JOw (a : Exp) (d n : Int) : smE a d n = if decide (IntKind.i64.wrap (n - 1) < 0) || d == 0 || decide ((a.text.length : Int) > 2000) || decide ((a.value.length : Int) > 3) then (false, IntKind.i64.wrap (n - 1))
  else if a.value.all XD then JJg a.args (IntKind.i64.wrap (d - 1)) (IntKind.i64.wrap (n - 1)) else (false, IntKind.i64.wrap (n - 1)) := by
 cases a; rw [smE]; rfl
theorem step79 (a : Exp) (d n : Int) (ha : a.value.length ≤ 68719476736) (ha2 : a.args.length ≤ 68719476736)
  (h1 : ∀ x ∈ a.value, PT 10 [JB x] (.d (.bool (XD x))))
  (h2 : ∀ x ∈ a.args, ∀ d n, KT 79 [.d (JL x), .d (.int .i64 d), .ref 1000 0] [(1000, .box [.d (.int .i64 n)])] (.d (.bool (smE x d n).1)) [(1000, .box [.d (.int .i64 (smE x d n).2)])]) :
  KT 79 [.d (JL a), .d (.int .i64 d), .ref 1000 0] [(1000, .box [.d (.int .i64 n)])] (.d (.bool (smE a d n).1)) [(1000, .box [.d (.int .i64 (smE a d n).2)])] := by
 refine ok79.co (k := false) (Jd (by simp [UA, put, Jc, J4, JP, JW])) trivial ?_;rw [JE];simp only [go_sem, ir79, simprocAttr];refine sq (d == 0) ?_ ?_
 all_goals simp only [go_sem, simprocAttr]
 refine sq (decide ((a.text.length : Int) > 2000)) ?_ ?_
 all_goals simp only [go_sem, simprocAttr]
 refine sq (decide ((a.value.length : Int) > 3)) ?_ ?_
 all_goals simp only [go_sem, Vc, simprocAttr]
 apply ik <;> intro hb
 ·simp only [JOw a d n, hb, and_self, ↓reduceIte]
 rw [JOw a d n, hb];simp only [Vu, ↓reduceIte];generalize hw : IntKind.i64.wrap (n - 1) = w;generalize hd1 : IntKind.i64.wrap (d - 1) = d1;refine JJ (fun r s => ∃ (k : Nat), k ≤ a.value.length ∧ r = a.value.length - k ∧ a.value.all XD = (a.value.drop k).all XD ∧
  s = ⟨[(1, .d (.int .i64 d)), (2, .ref 1000 0), (3, .ref 3 0), (7, .d (.int .i64 k))],
   [(1000, .box [.d (.int .i64 w)]), (3, .box [.d (.int .i64 a.op), .d (.int .i64 a.int), .d (.str a.text), .d (.list 6 (a.value.map JB)), .d (.list 5 (a.args.map JL))])]⟩) ?_ ?_
 ·exact ⟨_, _, Wk.refl _, 0, Nat.zero_le _, rfl, rfl, rfl⟩
 ·rintro r s ⟨k, hk, rfl, hinv, rfl⟩;by_cases hlt : k < a.value.length
  ·have hx := Jy hlt;have hd := dT hlt;refine zz60 ?_;have hc := (h1 a.value[k] (Vk _)).call trivial;rw [JA] at hc;refine ⟨oM, wn hc ?_⟩;refine zz ?_;rw [Vq hlt, List.all_cons] at hinv;apply ik <;> intro hf
   ·simp only [Bool.not_eq_true'] at hf;rw [hf, Bool.false_and] at hinv;simp only [go_sem, hinv, simprocAttr]
   ·simp only [Bool.not_eq_false'] at hf;rw [hf, Vt] at hinv;refine ⟨a.value.length - (k + 1), _, oM, Wk.less ?_, k + 1, oM, rfl, hinv, rfl⟩;exact Y6 trivial
  ·have hd := dF hlt;obtain rfl : k = a.value.length := oM;rw [List.drop_length, List.all_nil] at hinv;refine JM8 ?_;refine JJ (fun r s => ∃ (k : Nat) (m' : Int), k ≤ a.args.length ∧ r = a.args.length - k ∧ JJg a.args d1 w = JJg (a.args.drop k) d1 m' ∧
    s = ⟨[(1, .d (.int .i64 d)), (2, .ref 1000 0), (3, .ref 3 0), (8, .d (.int .i64 k))],
     [(1000, .box [.d (.int .i64 m')]), (3, .box [.d (.int .i64 a.op), .d (.int .i64 a.int), .d (.str a.text), .d (.list 6 (a.value.map JB)), .d (.list 5 (a.args.map JL))])]⟩) ?_ ?_
   ·exact ⟨_, _, Wk.refl _, 0, w, Nat.zero_le _, rfl, rfl, rfl⟩
   ·clear hinv;rintro r s ⟨k, m', hk, rfl, hinv, rfl⟩;by_cases hlt : k < a.args.length
    ·have hx := JEF hlt;have hd := dT hlt;have hc := (h2 a.args[k] (Vk _) d1 m').cnt (ds := [JL a.args[k], .int .i64 d1]) 1000;rw [JE] at hc;rw [Vq hlt, JJg] at hinv;refine zz60 ?_;refine ⟨oM, wn hc ?_⟩;refine zz ?_;apply ik <;> intro hf
     ·simp only [Bool.not_eq_true'] at hf;rw [hf] at hinv;simp only [Vu, ↓reduceIte] at hinv;rw [hinv];exact zz trivial
     ·simp only [Bool.not_eq_false'] at hf;rw [hf] at hinv;simp only [↓reduceIte] at hinv;refine ⟨a.args.length - (k + 1), _, oM, Wk.less ?_, k + 1, (smE a.args[k] d1 m').2, oM, rfl, hinv, rfl⟩;exact Y6 trivial
    ·have hd := dF hlt;obtain rfl : k = a.args.length := oM;rw [List.drop_length, JJg] at hinv;exact JM8 trivial
mutual
theorem JOx : ∀ (a : Exp), okE a → ∀ d n, KT 79 [.d (JL a), .d (.int .i64 d), .ref 1000 0] [(1000, .box [.d (.int .i64 n)])] (.d (.bool (smE a d n).1)) [(1000, .box [.d (.int .i64 (smE a d n).2)])]
 | .mk o i t v l, ha, d, n => by
  simp only [okE] at ha;obtain ⟨a1, a2, a3, a4⟩ := ha;exact step79 _ d n a1 a2 (fun x hx => JOv x (JEK a3 x hx)) (fun x hx d n => JK0 l a4 x hx d n)
theorem JK0 : ∀ (l : List Exp), JJA l → ∀ x ∈ l, ∀ d n, KT 79 [.d (JL x), .d (.int .i64 d), .ref 1000 0] [(1000, .box [.d (.int .i64 n)])] (.d (.bool (smE x d n).1)) [(1000, .box [.d (.int .i64 (smE x d n).2)])]
 | [], _, x, h, _, _ => by cases h
 | v :: r, ho, x, h, d, n => by
  simp only [JJA] at ho;by_cases e : x = v
  ·rw [e]; exact JOx v ho.1 d n
  ·exact JK0 r ho.2 x ((VA.1 h).resolve_left e) d n
end
def JJh (a : Exp) : Bool := (smE a 12 150).1
theorem walk38 (a : Exp) (ha : okE a) : PT 38 [JL a] (.d (.bool (JJh a))) := by
 refine ok38.pc ?_;have hc := (JOx a ha 12 150).cnt (ds := [JL a, .int .i64 12]) 3;rw [JE] at hc ⊢;simp only [go_sem, ir38, simprocAttr];refine wc hc ?_;rfl
def JGs (r : Rule) : Bool := !(decide ((r.target.length : Int) > 300) || !JJh r.expr)
def JCq (m : List Rule) : Bool := !decide ((m.length : Int) > 12) && m.all JGs
theorem walk9 (m : List Rule) (hm : okM m) : PT 9 [Yv m] (.d (.bool (JCq m))) := by
 refine ok9.pc ?_;have hml := hm.1;simp only [go_sem, ir9, Yv, Vc, simprocAttr];apply ik <;> intro hb
 ·simp only [JCq, hb, Vr, Bool.false_and]
 ·rw [JCq, hb, Vs, Vt];refine JJ (fun r s => ∃ (k : Nat), k ≤ m.length ∧ r = m.length - k ∧ m.all JGs = (m.drop k).all JGs ∧
   s = ⟨[(1, .ref 1 0), (3, .d (.int .i64 k))], [(1, .box [.d (.list 6 (m.map Yg))])]⟩) ?_ ?_
  ·exact ⟨_, _, Wk.refl _, 0, Nat.zero_le _, rfl, rfl, rfl⟩
  ·rintro r s ⟨k, hk, rfl, hinv, rfl⟩;by_cases hlt : k < m.length
   ·have hx := JBn hlt;have hd := dT hlt;have hc := (walk38 m[k].expr (hm.2 _ (Vk _))).call trivial;rw [JE] at hc;rw [Vq hlt, List.all_cons, JGs] at hinv;refine zz8 ?_;refine ⟨oM, dC, Us (!JJh m[k].expr) (fun _ => ?_) ?_⟩
    all_goals simp only [go_sem, hx, Vv, Vc, simprocAttr]
    ·refine ⟨oM, wn hc ?_⟩;exact zz trivial
    ·apply ik <;> intro hf
     ·rw [hf, Vr, Bool.false_and] at hinv;simp only [go_sem, hinv, simprocAttr]
     ·rw [hf, Vs, Vt] at hinv;refine ⟨m.length - (k + 1), _, oM, Wk.less ?_, k + 1, oM, rfl, hinv, rfl⟩;exact Y6 trivial
   ·have hd := dF hlt;obtain rfl : k = m.length := oM;rw [List.drop_length, List.all_nil] at hinv;exact JM8 trivial
mutual
theorem JAH : ∀ v : Val, fits (JB v) → okV v
 | .mk k i s t l f, h => by
  have h' : l.length ≤ 68719476736 ∧ f.length ≤ 68719476736 := (YT h).2;rw [JA] at h;simp only [fits, XL, and_true, Val.list, Val.fields] at h;simp only [okV];exact ⟨h'.1, h'.2, JFy l fun x hx => UQ.1 h.2.2.2.2.1.2 _ (VC.2 ⟨x, hx, rfl⟩), JFz f fun x hx => UQ.1 h.2.2.2.2.2.2 _ (VC.2 ⟨x, hx, rfl⟩)⟩
theorem JFy : ∀ l : List Val, (∀ x ∈ l, fits (JB x)) → Yw l
 | [], _ => by simp [Yw]
 | v :: r, h => by
  simp only [Yw];exact ⟨JAH v (h v (Vh)), JFy r fun x hx => h x (Vn _ hx)⟩
theorem JFz : ∀ l : List Fld, (∀ x ∈ l, fits (Jh x)) → ZE l
 | [], _ => by simp [ZE]
 | .mk n v :: r, h => by
  have h1 := h (.mk n v) (Vh);rw [J3] at h1;have h2 : fits (JB v) := by
   rw [JA];simp only [fits, XL, and_true, Fld.value] at h1 ⊢;exact h1.2
  simp only [ZE];exact ⟨JAH v h2, JFz r fun x hx => h x (Vn _ hx)⟩
end
theorem p55 (a : Val) : PT 55 [JB a] (.d (JB a)) := Ui.Ju ok55.has fun h => JCd a (JAH a (h _ (Vh)))
theorem p16 (a b : Val) : PT 16 [JB a, JB b] (.d (.bool (JA7 a b == 0))) := Ui.Ju ok16.has fun h => walk16 a b (JAH a (h _ (Vh))) (JAH b (h _ (Vn _ (Vh))))
theorem p10 (a : Val) : PT 10 [JB a] (.d (.bool (XD a))) := Ui.Ju ok10.has fun h => JOv a (JAH a (h _ (Vh)))
theorem p154 (v : Val) (n : Str) : PT 154 [JB v, .str n] (.d (.int .i64 (ixN n v.fields))) := Ui.Ju ok154.has fun h => JRH v n (YT (h _ (Vh))).2.2
theorem p112 (s : Str) : PT 112 [.str s] (.d (.bool (XK s))) := Ui.Ju JNb.has fun h => JDV s (by have := h _ (Vh); simpa [fits] using this)
theorem JOy (n : Str) (l : List Fld) : ixN n l = match U6 n l with | some k => (k : Int) | none => -1 := rfl
def XP (v : Val) (n : Str) : Val × Bool := if v.kind ≠ 9 then (zeroV, false) else match U6 n v.fields with
 | some i => ((v.fields[i]?.map Fld.value).getD zeroV, true)
 | none => (zeroV, false)
theorem JOz (v : Val) (n : Str) : PT 89 [JB v, .str n] (.tup [.d (JB (XP v n).1), .d (.bool (XP v n).2)]) := by
 refine ok89.pc ?_;have c := (p154 v n).call trivial;have hbd := JCe (q := fun f => f.name == n) (l := v.fields);generalize hR : XP v n = R;rw [JA v] at c ⊢;unfold XP at hR;have hix := JOy n v.fields;generalize hI : ixN n v.fields = I at *;rw [JA R.1];simp only [go_sem, ir89, simprocAttr];refine wc c ?_;refine sq (decide (I < 0)) ?_ ?_
 ·exact zz trivial
 refine zz ?_;apply ik <;> intro h
 ·have : R = (zeroV, false) := by
   rw [← hR];by_cases hk : v.kind = 9
   ·rw [if_neg (sX hk)];cases e : U6 n v.fields with
    | none => rfl
    | some i =>
     rw [e] at hix;simp only at hix;simp [hk] at h;omega
   ·rw [if_pos hk]
  rw [this];rfl
 ·simp only [Bool.or_eq_false_iff, bne_eq_false_iff_eq, decide_eq_false_iff_not] at h;obtain ⟨h1, h2⟩ := h;rw [if_neg (sX h1)] at hR;cases e : U6 n v.fields with
  | none => rw [e] at hix; simp only at hix; omega
  | some i =>
   rw [e] at hix hR;simp only at hix hR;have hil : i < v.fields.length := by
    obtain ⟨h, _⟩ := List.findIdx?_eq_some_iff_getElem.1 e;exact h
   rw [Vl hil] at hR;subst hix;subst hR;have hx := J5 hil;have c2 := (p55 v.fields[i].value).call trivial;rw [JA v.fields[i].value] at c2;refine JM5 ?_;refine ⟨⟨oM, oM⟩, wn c2 ?_⟩;exact zz trivial
theorem con156 (v : Nat) (xs : List Dat) (y : Dat) (hx : xs.length ≤ 1000000000) (hy : y.cells.length = 7) :
  KT 156 [.ms 1000 v, .d (.int .i64 xs.length), .d (.list 7 [y])] [(1000, .row v 7 xs)] (.ms 1000 (v + 1)) [(1000, .row (v + 1) 7 (xs ++ [y]))] := by
 refine ok156.co (k := true) (Jd (by simp [UA, put, Jc, J4, JP, JW])) (by simp [JD, upd, inT, JW, JP]) ?_;simp only [go_sem, ir156, Nat.reduceAdd, Nat.reduceEqDiff, Nat.reduceBEq, Nat.reduceLeDiff, reduceCtorEq, ↓reduceIte];refine ⟨⟨oM, oM⟩, fun h => ?_, fun h => by omega⟩;simp at h
theorem JJi {α : Type} (o : α) (j : Nat) : Av.get [(1000, o)] j = if j = 1000 then some o else none := by
 by_cases h : j = 1000
 ·subst h; simp [Av.get]
 ·have h' : ¬ 1000 = j := fun e => h e.symm
  simp [Av.get, h, h']
theorem JSI (i v : Nat) (xs : List Dat) (y : Dat) (hx : xs.length ≤ 1000000000) (hy : y.cells.length = 7) :
  CT (.fn 156) [.ms i v, .d (.int .i64 xs.length), .d (.list 7 [y])] [(i, some (.row v 7 xs))] (.ms i (v + 1)) [(i, .row (v + 1) 7 (xs ++ [y]))] := by
 have hg : ∀ j o, Av.get [(1000, Obj.row v 7 xs)] j = some o → j = 1000 ∧ o = .row v 7 xs := fun j o h => by
  rw [JJi] at h;split at h
  ·cases h; exact ⟨by assumption, rfl⟩
  ·cases h
 have hp : ∀ j o, JD (Av.get [(1000, Obj.row v 7 xs)]) [(1000, Obj.row (v + 1) 7 (xs ++ [y]))] j = some o → j = 1000 ∧ o = .row (v + 1) 7 (xs ++ [y]) := fun j o h => by
  simp only [JD, upd, JJi] at h;split at h
  ·cases h; exact ⟨by assumption, rfl⟩
  ·cases h
 have hs : ∀ j, (JD (Av.get [(1000, Obj.row v 7 xs)]) [(1000, Obj.row (v + 1) 7 (xs ++ [y]))] j).isSome = true → j = 1000 := fun j h => by
  obtain ⟨o, ho⟩ := Option.isSome_iff_exists.1 h;exact (hp j o ho).1
 have := (con156 v xs y hx hy).call (fun _ => i) (by
   intro j h;obtain ⟨o, ho⟩ := Option.isSome_iff_exists.1 h;have := (hg j o ho).1
   omega) ?_ ?_ (by intro j o h; obtain ⟨_, rfl⟩ := hg j o h; trivial) [] ?_ ?_ ?_
 ·exact this
 ·intro a b ha hb e;rw [hs a ha, hs b hb]
 ·intro c hc;simp only [VA, List.not_mem_nil, or_false] at hc;rcases hc with rfl | rfl | rfl
  ·simp [inT, JJi, JW]
  ·trivial
  ·trivial
 ·intro e he;simp only [VA, List.not_mem_nil, or_false] at he;subst he;exact .inl (by simp [JJi])
 ·intro j o h;obtain ⟨_, rfl⟩ := hp j o h;trivial
 ·simp [JD, upd, inT, JW]
theorem JO0 (i v k : Nat) (xs : List Dat) (y : Dat) (hk : k ≤ xs.length) (hx : xs.length ≤ 1000000000) (hy : y.cells.length = 7) :
  CT (.fn 156) [.ms i v, .d (.int .i64 k), .d (.list 7 [y])] [(i, some (.row v 7 xs))] (.ms i (v + 1)) [(i, .row (v + 1) 7 (xs.take k ++ y :: xs.drop k))] := by
 by_cases h : k < xs.length
 ·exact ins_ok i v k xs y h hx hy
 ·obtain rfl : k = xs.length := oM;rw [List.take_length, List.drop_length];exact JSI i v xs y hx hy
end Go.Proofs
namespace Av
open Go
variable [Glb] [Rls]
variable {P : Program} {f : Nat}
theorem JQ.cloR {g sz v : Nat} {xs cs : List Dat} {r : Dat} (h : Ui P f [(Dat.list sz xs).canon, JFK g cs] (.d r)) (hr : scalar r = true) (i j : Nat) :
  JQ P f [.ms i v, .clo (.func g) [] [.ref j 0]] [(i, some (.row v sz xs)), (j, some (.box (cs.map .d)))] (.d r) [] := by
 intro β A w H vs hT hc hvs;have hi : H i = some (.row v sz xs) := hT _ (Vh);have hj : H j = some (.box (cs.map .d)) := hT _ (Vn _ (Vh));obtain ⟨x1, x2, rfl⟩ : ∃ x y, vs = #[x, y] := by
  have h2 : 2 = vs.size := sX hvs.1;refine ⟨vs[0], vs[1], ?_⟩;apply Array.ext
  ·simp [← h2]
  ·intro i h1 h2;have : i = 0 ∨ i = 1 := oM;rcases this with rfl | rfl <;> rfl
 have v1 := hvs.2 0 _ x1 rfl rfl;have v2 := hvs.2 1 _ x2 rfl rfl;have hd : Jq H [.ms i v] = some (v = v ∧ True, [.list sz xs], [(i, .frz v sz xs)]) := by simp [Jq, datum, Uj, hi]
 obtain ⟨A1, s1, l1, r1, m1⟩ := XW hc hd ⟨rfl, trivial⟩ (us := [x1]) rfl (fun k c u h1 h2 => by
  match k, h1, h2 with
  | 0, h1, h2 => cases h1; cases h2; exact v1
  | k + 1, h1, _ => cases h1)
 have hR := (r1 0 _ x1 rfl rfl).canon;have st := Stp.JAi hc hj (JEU cs);have hle : ∀ b, (A1 b ∨ β j = some b) → b < w.heap.size := by
  rintro b (h | h)
  ·exact s1.core.old b h
  ·exact st.core.old b (.inr h)
 have hc0 : Core β (fun b => A1 b ∨ β j = some b) w (get []) := ⟨(by intro i o hi; cases hi), (by intro i j o o' b hi; cases hi), (by intro i o b hi; cases hi), hle, fun g cs hg => (s1.core.glob g cs hg).mono (fun _ _ => rfl) (fun _ h => .inl h)⟩;refine .inl ⟨h.1, (h.2 β _ w _ hc0 ⟨rfl, ?_⟩).mono ?_⟩
 ·intro k c u h1 h2
  match k, h1, h2 with
  | 0, h1, h2 =>
   cases h1; cases h2;exact .d _ _ (hR.mono (fun _ _ => rfl) (fun _ h => .inl h))
  | 1, h1, h2 =>
   cases h1; cases h2;refine .d _ _ ?_;have h3 := st.vals _ _ v2;cases h3 with
   | clo _ _ _ a1 a2 l1 l2 hf hvv =>
    refine .fn _ _ _ a1 a2 l1 (sX l2) (by intro j c v hj; cases hj) ?_;intro k c v hk hkv
    match k, hk with
    | 0, hk =>
     cases hk;have hrf := hvv 0 _ v rfl hkv;cases hrf with
     | ref _ _ _ _ _ hu g0 g1 g2 =>
      have := g2 cs sU;have h4 : Rep (fun k => A k ∨ β j = some k) w (.ptr cs) v := sX this;refine h4.mono (fun _ _ => rfl) ?_;rintro b (h | h)
      ·exact .inl (m1 b h)
      ·exact .inr h
    | k + 1, hk => cases hk
  | k + 2, h1, h2 => cases h1
 ·rintro e w' ⟨v, β1, A2, rfl, hsince, hc1, hv⟩;obtain ⟨s1, s2, s3, s4, s5, sl, s6, s7, s8⟩ := hsince;dsimp only at s1 s2 s3 s4 s5 sl;have hsame : ∀ b, b < w.heap.size → w'.heap[b]? = w.heap[b]? := fun b hb => s5 b hb (by intro i o hi; cases hi)
  have hst : Stp β A w H β A w' H := Stp.new hc s1 s2 s3 s4 hsame (fun _ h => h) (fun _ h => .inl h) (fun b hb => by have := hc.old b hb; omega);exact ⟨v, rfl, β, A, hst, .d _ _ (hv.JX.scalar hr)⟩
theorem Ui.JSx {g : Nat} {d : Dat} {cs : List Dat} {r : Av} (h : Ui P f [d, JFK g cs] r) (hr : JU r) (i : Nat) :
  JQ P f [.d d, .clo (.func g) [] [.ref i 0]] [(i, some (.box (cs.map .d)))] r [(i, .fbox cs)] := by
 intro β A w H vs hT hc hvs;have hi : H i = some (.box (cs.map .d)) := hT _ (List.mem_singleton.2 rfl);have st := Stp.JAi hc hi (JEU cs);obtain ⟨x1, x2, rfl⟩ : ∃ x y, vs = #[x, y] := by
  have h2 : 2 = vs.size := sX hvs.1;refine ⟨vs[0], vs[1], ?_⟩;apply Array.ext
  ·simp [← h2]
  ·intro i h1 h2;have : i = 0 ∨ i = 1 := oM;rcases this with rfl | rfl <;> rfl
 have v1 := st.vals _ _ (hvs.2 0 _ x1 rfl rfl);have v2 := st.vals _ _ (hvs.2 1 _ x2 rfl rfl);have hv2 : Rep (fun k => A k ∨ β i = some k) w (JFK g cs) x2 := by
  cases v2 with
  | clo _ _ _ a1 a2 l1 l2 hf hvv =>
   refine .fn _ _ _ a1 a2 l1 (sX l2) (by intro j c v hj; cases hj) ?_;intro k c v hk hkv
   match k, hk with
   | 0, hk =>
    cases hk;have hrf := hvv 0 _ v rfl hkv;cases hrf with
    | ref _ _ _ _ _ hu g0 g1 g2 =>
     have := g2 cs sU;simpa using this
   | k + 1, hk => cases hk
 have := h.call hr β _ w _ #[x1, x2] sP st.core ⟨rfl, fun k c u h1 h2 => by
  match k, h1, h2 with
  | 0, h1, h2 => cases h1; cases h2; exact v1
  | 1, h1, h2 => cases h1; cases h2; exact .d _ _ hv2
  | k + 2, h1, h2 => cases h1⟩
 rcases this with ⟨a1, a2⟩ | ⟨u, w', a1, β', A', a2, a3⟩
 ·refine .inl ⟨a1, a2.mono ?_⟩;rintro e w' ⟨u, rfl, β', A', b1, b2⟩;exact ⟨u, rfl, β', A', st.trans b1, b2⟩
 ·exact .inr ⟨u, w', a1, β', A', st.trans a2, a3⟩
theorem Ui.JSy {ds : List Dat} {a b : Dat} (h : Ui P f (ds.map Dat.canon) (.tup [.d a, .d b])) (ha : scalar a = true) (hb : scalar b = true) {args : List Av} {T : List (Nat × Option Obj)} {p : Prop} {u : List (Nat × Obj)}
  (hd : ∀ H : Heap, (∀ e ∈ T, H e.1 = e.2) → Jq H args = some (p, ds, u)) (hp : p) : JQ P f args T (.tup [.d a, .d b]) [] := by
 intro β A w H vs hT hc hvs;obtain ⟨A', st, hl, hrep, hA⟩ := XW hc (hd H hT) hp (us := vs.toList) (sX hvs.1) (fun i c v h1 h2 => hvs.2 i c v h1 (sX h2));have hc0 : Core β A' w (get []) := ⟨(by intro i o hi; cases hi), (by intro i j o o' b hi; cases hi), (by intro i o b hi; cases hi), st.core.old, st.core.glob⟩;refine .inl ⟨h.1, (h.2 β A' w vs hc0 ⟨by simp at hl ⊢; omega, ?_⟩).mono ?_⟩
 ·intro i c v h1 h2;rw [List.map_map, Vo] at h1;cases e : ds[i]? with
  | none => simp [e] at h1
  | some x =>
   simp only [e, Vj, Vd, Function.comp] at h1;subst h1;exact .d _ _ (hrep i x v e (sX h2)).canon
 ·rintro e w' ⟨v, β1, A1, rfl, hsince, hc1, hv⟩;obtain ⟨s1, s2, s3, s4, s5, sl, s6, s7, s8⟩ := hsince;dsimp only at s1 s2 s3 s4 s5 sl;have hsame : ∀ b, b < w.heap.size → w'.heap[b]? = w.heap[b]? := fun b hb => s5 b hb (by intro i o hi; cases hi)
  have hst : Stp β A w H β A w' H := Stp.new hc s1 s2 s3 s4 hsame (fun _ h => h) (fun _ h => .inl h) (fun b hb => by have := hc.old b hb; omega);refine ⟨v, rfl, β, A, hst, ?_⟩;cases hv with
  | tup _ arr hl hvv =>
   refine .tup _ _ hl fun i c u h1 h2 => ?_
   have h3 := hvv i c u h1 h2
   match i, h1 with
   | 0, h1 => cases h1; exact .d _ _ (h3.JX.scalar ha)
   | 1, h1 => cases h1; exact .d _ _ (h3.JX.scalar hb)
   | i + 2, h1 => cases h1
end Av
namespace Go.Proofs
open Go Av
theorem JO1 (v x : Val) (n : Str) : PT 90 [JB v, .str n, JB x] (.tup [.d (JB (Xn v n x).1), .d (.int .i64 (Xn v n x).2)]) := by
 refine Ui.Ju ok90.has fun hfit => ?_
 have hvo := JAH v (hfit _ (Vh));refine ok90.pc ?_;have c1 := (p154 v n).call trivial;have c2 := (p112 n).call trivial;have c3 := (JAC x).call trivial;have c4 := JRN v hvo 1 2 dC;have c5 := (p55 x).call trivial;have hbd := JCe (q := fun f => f.name == n) (l := v.fields);generalize hR : Xn v n x = R;rw [JA v] at c1 c4 ⊢;rw [JA x] at c3 c5 ⊢;unfold Xn at hR;have hix := JOy n v.fields;generalize hI : ixN n v.fields = I at *;rw [JA R.1];simp only [go_sem, ir90, simprocAttr];refine wc c1 ?_;apply ik <;> intro h
 ·have : R = (zeroV, 11) := by
   rw [← hR, if_pos (sX h)]
  rw [this];rfl
 have hk : v.kind = 9 := sX h;rw [if_neg (sX hk)] at hR;refine wc c2 ?_;apply ik <;> intro h2
 ·rw [if_pos (sX h2)] at hR;rw [← hR];rfl
 rw [if_neg (sX h2)] at hR;refine wc c3 ?_;apply ik <;> intro h3
 ·rw [if_pos h3] at hR;rw [← hR];rfl
 rw [if_neg (nF h3)] at hR
 try refine zz ?_
 refine sq (decide ((v.fields.length : Int) ≥ 64)) ?_ ?_
 ·exact zz7 trivial
 refine zz ?_;apply ik <;> intro h4
 ·simp only [Vi, decide_eq_true_eq] at h4;cases e : U6 n v.fields with
  | some i => rw [e] at hix; simp only at hix; omega
  | none =>
   rw [e] at hR;simp only [h4.2, ↓reduceIte] at hR;rw [← hR];rfl
 simp only [Bool.and_eq_false_iff, decide_eq_false_iff_not] at h4;refine wc c4 ?_;apply ik <;> intro h5
 ·simp only [decide_eq_true_eq] at h5;cases e : U6 n v.fields with
  | none => rw [e] at hix; simp only at hix; omega
  | some i =>
   rw [e] at hix hR;simp only at hix hR;have hil : i < v.fields.length := by
    obtain ⟨h, _⟩ := List.findIdx?_eq_some_iff_getElem.1 e;exact h
   rw [Vl hil] at hR;subst hix;subst hR;have hx := J5 hil;refine JC rfl c5 trivial ?_;refine JM5 ?_;have hse : (List.map Jh v.fields).set i (Dat.agg [Dat.str v.fields[i].name, Dat.int IntKind.i64 x.kind, Dat.int IntKind.i64 x.int, Dat.int IntKind.i64 x.scale, Dat.str x.text, Dat.list 6 (List.map JB x.list), Dat.list 7 (List.map Jh x.fields)]) = List.map Jh (v.fields.set i (.mk v.fields[i].name x)) := by
    rw [List.map_set, J3];rfl
   rw [hse, XY];exact ⟨⟨oM, oM⟩, dC, rfl⟩
 ·simp only [decide_eq_false_iff_not] at h5;cases e : U6 n v.fields with
  | some i => rw [e] at hix; simp only at hix; omega
  | none =>
   rw [e] at hR;have hl64 : ¬ ((v.fields.length : Int) ≥ 64) := by
    rcases h4 with h4 | h4
    ·omega
    ·exact h4
   simp only [hl64, ↓reduceIte] at hR;have hfl : v.fields.length ≤ 1000000 := oM;have c6 := JQ.cloR (v := v.fields.length) (xs := v.fields.map Jh) (sz := 7) (cs := [.str n]) (h := by
    have := JGY (fun x => JRF x n) v.fields oM;simp only [Dat.canon, XY];exact this) rfl 2 4
   refine wn c6 ?_;have hb2 := JCe (q := fun f => gtB f.name n) (l := v.fields);have hat : ((if decide (ixF (fun f => gtB f.name n) v.fields < 0) = true then (v.fields.length : Int) else ixF (fun f => gtB f.name n) v.fields) = (atF n v.fields : Nat)) := by
    unfold ixF atF;show _ = (((v.fields.findIdx? fun f => gtB f.name n).getD v.fields.length : Nat) : Int);cases v.fields.findIdx? fun f => gtB f.name n with
    | none => simp
    | some k => simp; omega
   generalize ixF (fun f => gtB f.name n) v.fields = J at *;refine zz7 ?_;subst hR;have hle : atF n v.fields ≤ v.fields.length := by
    split at hat <;> omega
   have c7 := JO0 2 v.fields.length (atF n v.fields) (v.fields.map Jh) (.agg [Dat.str n, Dat.int IntKind.i64 x.kind, Dat.int IntKind.i64 x.int, Dat.int IntKind.i64 x.scale, Dat.str x.text, Dat.list 6 (List.map JB x.list), Dat.list 7 (List.map Jh x.fields)]) (sX hle) sO rfl;have hse : (v.fields.map Jh).take (atF n v.fields) ++ (.agg [Dat.str n, Dat.int IntKind.i64 x.kind, Dat.int IntKind.i64 x.int, Dat.int IntKind.i64 x.scale, Dat.str x.text, Dat.list 6 (List.map JB x.list), Dat.list 7 (List.map Jh x.fields)]) :: (v.fields.map Jh).drop (atF n v.fields) = List.map Jh (v.fields.take (atF n v.fields) ++ .mk n x :: v.fields.drop (atF n v.fields)) := by
    rw [Vw, Va, List.map_take, List.map_drop, J3 (.mk n x)];rfl
   apply ik <;> intro h7
   ·rw [if_pos h7] at hat;rw [← hat] at c7;refine JC rfl c5 trivial ?_;refine zz ?_;refine ⟨sP, JC rfl c7 ⟨rfl, trivial⟩ ?_⟩;refine zz ?_;rw [hse, XY];exact ⟨dC, rfl⟩
   ·rw [if_neg (nF h7)] at hat;rw [← hat] at c7;refine JC rfl c5 trivial ?_;refine zz ?_;refine ⟨sP, JC rfl c7 ⟨rfl, trivial⟩ ?_⟩;refine zz ?_;rw [hse, XY];exact ⟨dC, rfl⟩
theorem JO2 : PT 35 [.list 7 []] (.d (JB UB)) := JGV JHq kR
theorem JO3 (v : Val) (n : Str) : UY v n = if (XP v n).2 then (XP v n).1 else UB := by
 unfold UY XP;split
 ·rfl
 ·cases U6 n v.fields <;> rfl
theorem JO4 : ∀ (l : List Part) (v x : Val), l ≠ [] → PT 44 [JB v, .list 3 (l.map Jr), JB x] (.tup [.d (JB (XJ l v x).1), .d (.int .i64 (XJ l v x).2)])
 | [], _, _, h => absurd rfl h
 | p :: r, v, x, _ => by
  refine ok44.pc ?_;have c1 := (JAC x).call trivial;have c2 := (JOz v p.name).call (by simp [JU]);have c3 := JO2.call trivial;have hF := JO3 v p.name;generalize hR : XJ (p :: r) v x = R;rw [XJ] at hR;have hx0 : nth ((p :: r).map Jr) 0 = .agg [.int .i64 p.kind, .int .i64 p.index, .str p.name] := by simp [nth, Jr]
  have hsl : (((p :: r).map Jr).drop (Int.toNat 1)).take (((((p :: r).map Jr).length : Nat) : Int) - 1).toNat = r.map Jr := by
   have e : (((((p :: r).map Jr).length : Nat) : Int) - 1).toNat = r.length := sP;rw [e];simp [List.take_of_length_le]
  have hll : ((p :: r).map Jr).length = r.length + 1 := sP;have ih : ∀ y, r ≠ [] → PT 44 [JB y, .list 3 (r.map Jr), JB x] (.tup [.d (JB (XJ r y x).1), .d (.int .i64 (XJ r y x).2)]) := fun y h => JO4 r y x h
  generalize (p :: r).map Jr = L at *;have c4 := (JO1 v x p.name).call (by simp [JU]);by_cases hr : r = []
  ·subst hr;simp only [List.isEmpty_nil, Vt, ↓reduceIte] at hR;generalize Xn v p.name x = W at *;rw [JA v] at c2 c4 ⊢;rw [JA x] at c1 c4 ⊢;rw [JA W.1] at c4;rw [JA R.1];have h1 : ((L.length : Int) == 1) = true := by rw [hll]; rfl
   have h2 : decide ((L.length : Int) > 1) = false := by rw [hll]; rfl
   simp only [go_sem, ir44, h1, Nat.reduceAdd, Nat.reduceEqDiff, Nat.reduceBEq, Nat.reduceLeDiff, reduceCtorEq, ↓reduceIte];refine wn c1 ?_;simp only [go_sem, h1, h2, hx0, Vt, Int.toNat_zero, Nat.reduceAdd, Nat.reduceEqDiff, Nat.reduceBEq, Nat.reduceLeDiff, reduceCtorEq, ↓reduceIte];apply ik <;> intro h
   ·rw [if_pos h] at hR;rw [← hR]
   rw [if_neg (nF h)] at hR;subst hR;refine ⟨⟨oM, by rw [hll]; simp⟩, dC, ?_⟩;refine wc c4 trivial
  ·obtain ⟨q, s, rfl⟩ : ∃ q s, r = q :: s := by cases r with
    | nil => exact absurd rfl hr
    | cons q s => exact ⟨q, s, rfl⟩
   have c5 := (ih (UY v p.name) sP).call (by simp [JU]);clear ih;simp only [List.isEmpty_cons, Bool.false_and, Vu, ↓reduceIte] at hR;have h1 : ((L.length : Int) == 1) = false := by rw [hll]; simp; omega
   have h2 : decide ((L.length : Int) > 1) = true := by rw [hll]; simp; omega
   generalize XJ (q :: s) (UY v p.name) x = Q at *;clear c4;have c4 := fun y : Val => (JO1 v y p.name).call (by simp [JU])
   generalize XP v p.name = F at *;generalize UY v p.name = E at *;rw [JA v] at c2 ⊢;rw [JA x] at c5 ⊢;rw [JA F.1] at c2;rw [JA E, JA Q.1] at c5;rw [JA R.1];simp only [go_sem, ir44, h1, h2, hx0, Int.toNat_zero, Nat.reduceAdd, Nat.reduceEqDiff, Nat.reduceBEq, Nat.reduceLeDiff, reduceCtorEq, ↓reduceIte];refine ⟨⟨oM, by rw [hll]; simp; omega⟩, dC, ?_⟩;refine wc c2 ?_;apply ik <;> intro h3
   ·have e : E = UB := by rw [hF, if_neg (sX h3)]
    subst e;rw [JA UB] at c3;refine JFh rfl c3 ?_;refine zz ?_;refine ⟨⟨oM, oM, Int.le_refl _⟩, ?_⟩;rw [hsl];refine wc c5 ?_;apply ik <;> intro h4
    ·rw [if_pos (sX h4)] at hR;rw [← hR];rfl
    ·rw [if_neg (sX h4)] at hR;subst hR;have c6 := c4 Q.1;generalize Xn v p.name Q.1 = W at *;rw [JA v, JA Q.1, JA W.1] at c6;refine wc c6 trivial
   ·have e : E = F.1 := by rw [hF, if_pos (sX h3)]
    subst e;refine ⟨⟨oM, oM, Int.le_refl _⟩, ?_⟩;rw [hsl];refine wc c5 ?_;apply ik <;> intro h4
    ·rw [if_pos (sX h4)] at hR;rw [← hR];rfl
    ·rw [if_neg (sX h4)] at hR;subst hR;have c6 := c4 Q.1;generalize Xn v p.name Q.1 = W at *;rw [JA v, JA Q.1, JA W.1] at c6;refine wc c6 trivial
def ixG (q : TFl → Bool) (l : List TFl) : Int := match l.findIdx? q with
 | some k => (k : Int)
 | none => -1
theorem JK1 {g : Nat} {cs : List Dat} {q : TFl → Bool} (hq : ∀ x, PT g [UW x, .ptr cs] (.d (.bool (q x)))) (l : List TFl) (hl : l.length ≤ 68719476736) :
  PT 164 [.list 11 (l.map UW), JFK g cs] (.d (.int .i64 (ixG q l))) := by
 refine ok164.pc ?_;simp only [go_sem, ir164, Vc, simprocAttr];refine JJ (fun n s => ∃ k : Nat, k ≤ l.length ∧ n = l.length - k ∧ (∀ (j : Nat) (h1 : j < l.length), j < k → q l[j] = false) ∧
  s = ⟨[(0, .d (.list 11 (l.map UW))), (1, .d (JFK g cs)), (7, .d (.int .i64 l.length)), (8, .d (.int .i64 k))], []⟩) ?_ ?_
 ·exact ⟨_, _, Wk.refl _, 0, Nat.zero_le _, rfl, sP, rfl⟩
 ·rintro n s ⟨k, hk, rfl, hinv, rfl⟩;by_cases hlt : k < l.length
  ·have hx := Yh hlt;have hd := dT hlt;have hc := (hq l[k]).call trivial;rw [UC] at hc;refine zz8 ?_;refine ⟨oM, wn hc ?_⟩;refine zz ?_;apply ik <;> intro hf
   ·have : l.findIdx? q = some k := by
     rw [List.findIdx?_eq_some_iff_getElem];exact ⟨hlt, hf, fun j hj => by rw [hinv j oM hj]; decide⟩
    simp only [ixG, this]
   ·refine ⟨l.length - (k + 1), _, oM, Wk.less ?_, k + 1, oM, rfl, ?_, rfl⟩
    ·exact Y6 trivial
    ·intro j h1 hj;by_cases e : j = k
     ·subst e; exact hf
     ·exact hinv j h1 oM
  ·have hd := dF hlt;refine JAl ?_;have : l.findIdx? q = none := by
    rw [List.findIdx?_eq_none_iff];intro x hx;obtain ⟨j, hj, rfl⟩ := List.getElem_of_mem hx;exact hinv j hj oM
   simp only [ixG, this]
theorem JSJ (x : TFl) (n : Str) : PT 153 [UW x, .ptr [.str n]] (.d (.bool (x.name == n))) := by
 refine ok153.pc ?_;rw [UC];simp only [go_sem, ir153, Nat.reduceAdd, Nat.reduceEqDiff, Nat.reduceBEq, Nat.reduceLeDiff, reduceCtorEq, ↓reduceIte];exact Nat.one_pos
theorem JSK (x : TFl) (n : Str) : PT 165 [UW x, .ptr [.str n]] (.d (.bool (x.name == n))) := by
 refine ok165.pc ?_;rw [UC];simp only [go_sem, ir165, Nat.reduceAdd, Nat.reduceEqDiff, Nat.reduceBEq, Nat.reduceLeDiff, reduceCtorEq, ↓reduceIte];exact Nat.one_pos
def JIM (n : Str) (l : List TFl) : Option Nat := l.findIdx? fun f => f.name == n
def ixM (n : Str) (l : List TFl) : Int := ixG (fun f => f.name == n) l
theorem JO5 (n : Str) (l : List TFl) : ixM n l = match JIM n l with | some k => (k : Int) | none => -1 := rfl
def ty0 : Typ := .mk 0 0 0 0 [] [] []
def tf0 : TFl := .mk 0 [] 0 ty0 []
theorem JCr {t : Typ} (h : fits (Jk t)) : t.words.length ≤ 68719476736 ∧ t.elem.length ≤ 68719476736 ∧ t.fields.length ≤ 68719476736 := by
 rw [JN] at h;simp only [fits, XL, Vc, and_true] at h;exact ⟨h.2.2.2.2.1.1, h.2.2.2.2.2.1.1, h.2.2.2.2.2.2.1⟩
def tfR (t : Typ) (n : Str) : TFl × Bool := match JIM n t.fields with
 | some i => ((t.fields[i]?).getD tf0, true)
 | none => (tf0, false)
theorem JGt (t : Typ) (n : Str) : PT 98 [Jk t, .str n] (.tup [.d (UW (tfR t n).1), .d (.bool (tfR t n).2)]) := by
 refine Ui.Ju ok98.has fun hfit => ?_
 have hl := (JCr (hfit _ (Vh))).2.2;refine ok98.pc ?_;have c := JQ.clo (ds := [.list 11 (t.fields.map UW)]) (JK1 (fun x => JSK x n) t.fields hl) rfl 3;simp only [Va, Vb, List.cons_append, List.nil_append] at c;have hix := JO5 n t.fields;unfold ixM at hix;generalize hR : tfR t n = R;unfold tfR at hR;rw [JN, UC R.1];simp only [go_sem, ir98, simprocAttr];refine wc c ?_;apply ik <;> intro h
 ·simp only [decide_eq_true_eq] at h;cases e : JIM n t.fields with
  | none =>
   rw [e] at hR;rw [← hR];rfl
  | some i => rw [e] at hix; simp only at hix; omega
 ·simp only [decide_eq_false_iff_not] at h;cases e : JIM n t.fields with
  | none => rw [e] at hix; simp only at hix; omega
  | some i =>
   have hil : i < t.fields.length := by
    obtain ⟨h, _⟩ := List.findIdx?_eq_some_iff_getElem.1 e;exact h
   rw [e] at hix hR;simp only at hix hR;rw [Vl hil] at hR;subst hR;have hx := Yh hil;rw [hix];refine JM5 ?_;exact ⟨oM, oM⟩
end Go.Proofs
namespace Av
open Go Go.RowKit
variable [Glb] [Rls]
theorem JQ.JMA {P : Program} {f : Nat} {ds : List Dat} {x : Dat} (hh : Has P f)
  (h : ∀ (A : Nat → Prop) (w : World) (vs : Array Value), ds.length = vs.size → (∀ (i : Nat) d u, ds[i]? = some d → vs[i]? = some u → Rep A w d u) →
   Calls P f vs w fun e w' => ∃ u, e = .returned u ∧ Below w.heap.size w w' ∧ Rep (fun b => A b ∨ (w.heap.size ≤ b ∧ b < w'.heap.size)) w' x u) : JQ P f (ds.map .d) [] (.d x) [] := by
 intro β A w H vs _ hc hvs;have hl : ds.length = vs.size := sX hvs.1;refine .inl ⟨hh, (h A w vs hl ?_).mono ?_⟩
 ·intro i d u hd hu;have := hvs.2 i (.d d) u (by rw [Vo, hd]; rfl) hu;exact this.JX
 ·rintro e w' ⟨u, rfl, hb, hr⟩;refine ⟨u, rfl, β, fun b => A b ∨ (w.heap.size ≤ b ∧ b < w'.heap.size), ?_, .d _ _ hr⟩;refine Stp.new hc hb.os hb.tape hb.output hb.size hb.block (fun _ h => .inl h) ?_ ?_
  ·rintro b (h | h)
   ·exact .inl h
   ·exact .inr h.1
  ·rintro b (h | h)
   ·exact Nat.lt_of_lt_of_le (hc.old b h) hb.size
   ·exact h.2
theorem JIN {A : Nat → Prop} {w w' : World} {e : TypeId} {v : Value} {n : Nat} {ss : List (List UInt8)} (hn : n = ss.length) (hs : ∀ s ∈ ss, s.length ≤ 68719476736) (hl : ss.length ≤ 68719476736)
  (h : w'.ownsRow w.heap.size e 1 v n (ss.map fun s => Value.string ⟨s.toArray⟩)) : Rep (fun b => A b ∨ (w.heap.size ≤ b ∧ b < w'.heap.size)) w' (.list 1 (ss.map .str)) v := by
 obtain ⟨h1, ⟨rfl, h0⟩ | ⟨g, cap, cur, rfl, hg, hh, hcap, _, hcur, htake⟩⟩ := h
 ·have : ss = [] := by cases ss with
   | nil => rfl
   | cons a r => simp at hn; omega
  subst this;exact .emp 1 none 0
 ·have hlt : g < w'.heap.size := (Array.getElem?_eq_some_iff.1 hh).1;refine .list 1 _ g 0 n cap (ss.map fun s => Value.string ⟨s.toArray⟩) (sX hn) (.inr ⟨hg, hlt⟩) sO (sX hl) ?_ ?_ ?_ ?_ ?_
  ·intro u hu; obtain ⟨s, _, rfl⟩ := VC.1 hu; rfl
  ·intro x hx; obtain ⟨s, _, rfl⟩ := VC.1 hx; rfl
  ·intro i u hu;have : (cur.toList.take (n * 1))[i]? = some u := by rw [htake]; exact hu
   rw [List.getElem?_take] at this;split at this
   ·simp only [World.cell?, hh, Nat.zero_add];simpa using this
   ·cases this
  ·rw [JAB]; simp
  ·intro i c u hc hu;rw [JAB, Vo] at hc;rw [Vo] at hu;cases q : ss[i]? with
   | none => rw [q] at hc; cases hc
   | some s =>
    rw [q] at hc hu;cases hc;cases hu;exact .str s (hs s (List.mem_of_getElem? q))
end Av
namespace Go.Proofs
open Go.Shelf
def Tryz.JFR : Go.Shelf.Ren := ⟨fun | 16 => 196 | n => n, fun | 24 => 29 | 9 => 9 | 4 => 4 | n => n, fun | n => n⟩
theorem Tryz.JCx : Go.Proofs.Lays2.n16 Tryz.prog Tryz.JFR := {
 mixed := kR
 f16 := Tryz.func196.trans (congrArg some kR)
 t4 := Tryz.underlying4
 a4 := Tryz.isAgg4
 z4 := Tryz.sizeOf4
 v4 := Tryz.zeroValue4
 t9 := Tryz.underlying9
 a9 := Tryz.isAgg9
 z9 := Tryz.sizeOf9
 v9 := Tryz.zeroValue9
 t24 := Tryz.underlying29
 a24 := Tryz.isAgg29
 z24 := Tryz.sizeOf29
 v24 := Tryz.zeroValue29
 i9 := by kernel_rfl }
end Go.Proofs
namespace Go.Proofs
open Go Av Go.RowKit
theorem JO6 (ss : List Str) : CT 196 [.d (.list 1 (ss.map .str))] [] (.d (.list 1 (ss.map .str))) [] := by
 refine JQ.JMA (ds := [.list 1 (ss.map .str)]) ⟨_, Tryz.func196, kR, kR⟩ fun A w vs hl hv => ?_
 obtain ⟨v, rfl⟩ := JNl (sX hl);have hr := hv 0 _ v rfl rfl;have hf := hr.fits;simp only [fits, Vc] at hf;have hfl : (flat (ss.map Dat.str)) = ss.map .str := JAB ss;have hs : ∀ s ∈ ss, s.length ≤ 68719476736 := fun s h => UQ.1 hf.2 (.str s) (VC.2 ⟨s, h, rfl⟩)
 generalize hD : ss.map Dat.str = D at hr hfl;cases hr with
 | emp _ a cap =>
  obtain rfl : ss = [] := List.map_eq_nil_iff.1 hD;cases a with
  | none => exact (Any.slices_Clone_string_nil Tryz.JCx 0 cap w).mono fun e w' ⟨h1, h2⟩ => ⟨_, h1, by rw [h2]; exact Below.refl _ _, .emp 1 none 0⟩
  | some a =>
   refine (Any.slices_Clone_string_zero Tryz.JCx a cap w).mono ?_;rintro e w' ⟨v', rfl, h, _, hb⟩;exact ⟨_, rfl, hb, JIN (ss := []) rfl sP sP h⟩
 | list _ _ b o n cap vs hn hA hcap hc h1 hsz hh hvl hvv =>
  subst hD;have hlen : n = ss.length := sX hn;have hcell : ∀ j (h : j < ss.length), vs[j]? = some (.string ⟨ss[j].toArray⟩) := by
   intro j h;rw [JAB] at hvl;have hj : j < vs.length := by simp at hvl; omega
   have := hvv j (.str ss[j]) vs[j] (by rw [JAB]; simp [h]) (by simp [hj]);rw [Vl hj];generalize vs[j] = z at this;cases this;rfl
  refine (Any.slices_Clone_string Tryz.JCx b o n cap (ss.map fun s => ⟨s.toArray⟩) w sO oM ?_).mono ?_
  ·intro j hj;have hj' : j < ss.length := sX hj;have := hh j _ (hcell j hj');rw [this];simp [hj']
  ·rintro e w' ⟨v', rfl, h, _, hb⟩;rw [List.take_of_length_le sO, List.map_map] at h;exact ⟨_, rfl, hb, JIN hlen hs hf.1 h⟩
end Go.Proofs
namespace Go.Proofs
open Go Av
theorem JSL (g : TFl) (h : PT 136 [Jk g.type] (.d (Jk g.type))) : PT 195 [UW g] (.d (UW g)) := by
 refine Ui.Ju ok195.has fun hfit => ?_
 have hdl : g.dflt.length ≤ 68719476736 := by
  have := hfit _ (Vh);rw [UC] at this;simp only [fits, XL, Vc, and_true] at this;exact this.2.2.2.2.2.2.2.2.2.2.1
 refine ok195.pc ?_;have c := h.call trivial;rw [JN] at c;rw [UC];simp only [go_sem, ir195, simprocAttr];refine wc c ?_;refine ⟨⟨Int.le_refl _, sP, sO⟩, ?_⟩;refine JJ (fun n s => ∃ k : Nat, k ≤ g.dflt.length ∧ n = g.dflt.length - k ∧
  s = ⟨[(1, .ref 1 0), (2, .ref 2 0), (3, .ms 13 k), (15, .d (.list 6 (g.dflt.map JB))), (16, .d (.int .i64 g.dflt.length)), (17, .d (.int .i64 k))],
   [(1, .box [.d (.int .i64 g.number), .d (.str g.name), .d (.int .i64 g.need), .d (.int .i64 g.type.kind), .d (.int .i64 g.type.min), .d (.int .i64 g.type.max), .d (.int .i64 g.type.scale), .d (.list 1 (g.type.words.map .str)), .d (.list 7 (g.type.elem.map Jk)), .d (.list 11 (g.type.fields.map UW)), .d (.list 6 (g.dflt.map JB))]), (2, .box [.d (.int .i64 0), .d (.str []), .d (.int .i64 0), .d (.int .i64 0), .d (.int .i64 0), .d (.int .i64 0), .d (.int .i64 0), .d (.nil 1), .d (.nil 7), .d (.nil 11), .d (.nil 6)]), (13, .row k 6 ((g.dflt.take k).map JB))]⟩) ?_ ?_
 ·exact ⟨_, _, Wk.refl _, 0, Nat.zero_le _, rfl, sP⟩
 ·rintro n s ⟨k, hk, rfl, rfl⟩;by_cases hlt : k < g.dflt.length
  ·have hx := Jy hlt;have hd := dT hlt;have hc := (p55 g.dflt[k]).call trivial;rw [JA] at hc;refine zz8 ?_;refine ⟨oM, wn hc ?_⟩;refine zz ?_;refine ⟨sP, sO, ?_⟩;refine ⟨g.dflt.length - (k + 1), _, oM, Wk.less ?_, k + 1, oM, rfl, rfl⟩;rw [List.take_succ_eq_append_getElem hlt, Vw];simp only [go_sem, Jj k oM, Va, Vb, JA g.dflt[k], Nat.reduceAdd, Nat.reduceEqDiff, Nat.reduceBEq, Nat.reduceLeDiff, reduceCtorEq, ↓reduceIte]
  ·have hd := dF hlt;obtain rfl : k = g.dflt.length := oM;exact JGF trivial
theorem JSM (t : Typ) (h1 : ∀ x ∈ t.elem, PT 136 [Jk x] (.d (Jk x))) (h2 : ∀ g ∈ t.fields, PT 195 [UW g] (.d (UW g))) : PT 136 [Jk t] (.d (Jk t)) := by
 refine Ui.Ju ok136.has fun hfit => ?_
 obtain ⟨f1, f2, f3⟩ := JCr (hfit _ (Vh));refine ok136.pc ?_;rw [JN];simp only [go_sem, ir136, Nat.reduceAdd, Nat.reduceEqDiff, Nat.reduceBEq, Nat.reduceLeDiff, reduceCtorEq, ↓reduceIte];refine ⟨⟨Int.le_refl _, sP, sO⟩, ?_⟩;refine JJ (fun n s => ∃ k : Nat, k ≤ t.elem.length ∧ n = t.elem.length - k ∧
  s = ⟨[(1, .ref 1 0), (2, .ref 2 0), (3, .ms 12 k), (14, .d (.list 7 (t.elem.map Jk))), (15, .d (.int .i64 t.elem.length)), (16, .d (.int .i64 k))],
   [(1, .box [.d (.int .i64 t.kind), .d (.int .i64 t.min), .d (.int .i64 t.max), .d (.int .i64 t.scale), .d (.list 1 (t.words.map .str)), .d (.list 7 (t.elem.map Jk)), .d (.list 11 (t.fields.map UW))]), (2, .box [.d (.int .i64 0), .d (.int .i64 0), .d (.int .i64 0), .d (.int .i64 0), .d (.nil 1), .d (.nil 7), .d (.nil 11)]), (12, .row k 7 ((t.elem.take k).map Jk))]⟩) ?_ ?_
 ·exact ⟨_, _, Wk.refl _, 0, Nat.zero_le _, rfl, sP⟩
 ·rintro n s ⟨k, hk, rfl, rfl⟩;by_cases hlt : k < t.elem.length
  ·have hx := JBq hlt;have hd := dT hlt;have hc := (h1 t.elem[k] (Vk _)).call trivial;rw [JN] at hc;refine zz8 ?_;refine ⟨oM, wn hc ?_⟩;refine zz ?_;refine ⟨sP, sO, ?_⟩;refine ⟨t.elem.length - (k + 1), _, oM, Wk.less ?_, k + 1, oM, rfl, rfl⟩;rw [List.take_succ_eq_append_getElem hlt, Vw];simp only [go_sem, Jj k oM, Va, Vb, JN t.elem[k], Nat.reduceAdd, Nat.reduceEqDiff, Nat.reduceBEq, Nat.reduceLeDiff, reduceCtorEq, ↓reduceIte]
  ·have hd := dF hlt;obtain rfl : k = t.elem.length := oM;refine JGF ?_;refine ⟨⟨Int.le_refl _, sP, sO⟩, ?_⟩;refine JJ (fun n s => ∃ k : Nat, k ≤ t.fields.length ∧ n = t.fields.length - k ∧
    s = ⟨[(1, .ref 1 0), (2, .ref 2 0), (3, .ms 12 t.elem.length), (6, .ms 29 k), (31, .d (.list 11 (t.fields.map UW))), (32, .d (.int .i64 t.fields.length)), (33, .d (.int .i64 k))],
     [(1, .box [.d (.int .i64 t.kind), .d (.int .i64 t.min), .d (.int .i64 t.max), .d (.int .i64 t.scale), .d (.list 1 (t.words.map .str)), .d (.list 7 (t.elem.map Jk)), .d (.list 11 (t.fields.map UW))]), (2, .box [.d (.int .i64 0), .d (.int .i64 0), .d (.int .i64 0), .d (.int .i64 0), .d (.nil 1), .d (.nil 7), .d (.nil 11)]), (12, .row t.elem.length 7 (t.elem.map Jk)), (29, .row k 11 ((t.fields.take k).map UW))]⟩) ?_ ?_
   ·refine ⟨_, _, Wk.less ?_, 0, Nat.zero_le _, rfl, rfl⟩;simp [go_sem]
   ·rintro n s ⟨k, hk, rfl, rfl⟩;by_cases hlt : k < t.fields.length
    ·have hx := Yh hlt;have hd := dT hlt;have hc := (h2 t.fields[k] (Vk _)).call trivial;rw [UC] at hc;refine zz8 ?_;refine ⟨oM, wn hc ?_⟩;refine zz ?_;refine ⟨sP, sO, ?_⟩;refine ⟨t.fields.length - (k + 1), _, oM, Wk.less ?_, k + 1, oM, rfl, rfl⟩;rw [List.take_succ_eq_append_getElem hlt, Vw];simp only [go_sem, Jj k oM, Va, Vb, UC t.fields[k], Nat.reduceAdd, Nat.reduceEqDiff, Nat.reduceBEq, Nat.reduceLeDiff, reduceCtorEq, ↓reduceIte]
    ·have hd := dF hlt;obtain rfl : k = t.fields.length := oM;refine JGF ?_;refine wc (JO6 t.words) trivial
mutual
theorem p136 : ∀ t : Typ, PT 136 [Jk t] (.d (Jk t))
 | .mk k a b s w e f => JSM _ (p136s e) (p195s f)
theorem p136s : ∀ l : List Typ, ∀ x ∈ l, PT 136 [Jk x] (.d (Jk x))
 | [], x, h => by cases h
 | t :: r, x, h => by
  have h0 := p136 t;have h1 := p136s r x;rcases VA.1 h with e | h
  ·rw [e]; exact h0
  ·exact h1 h
theorem p195 : ∀ g : TFl, PT 195 [UW g] (.d (UW g))
 | .mk n m d t v => JSL _ (p136 t)
theorem p195s : ∀ l : List TFl, ∀ x ∈ l, PT 195 [UW x] (.d (UW x))
 | [], x, h => by cases h
 | t :: r, x, h => by
  have h0 := p195 t;have h1 := p195s r x;rcases VA.1 h with e | h
  ·rw [e]; exact h0
  ·exact h1 h
end
def JEw (t : Typ) (n : Str) : TFl × Bool := if t.kind ≠ 9 ∧ t.kind ≠ 10 then (tf0, false) else tfR t n
theorem fnd_at {cs : List Dat} {g : Nat} (n : Str) (t : Typ) (hq : ∀ x, PT g [UW x, .ptr cs] (.d (.bool (x.name == n)))) : PT 152 [Jk t, JFK g cs] (.tup [.d (UW (JEw t n).1), .d (.bool (JEw t n).2)]) := by
 refine Ui.Ju ok152.has fun hfit => ?_
 have hl := (JCr (hfit _ (Vh))).2.2;refine ok152.pc ?_;have c := (JK1 hq t.fields hl).call trivial;have hix := JO5 n t.fields;unfold ixM at hix;generalize hR : JEw t n = R;unfold JEw tfR at hR;rw [JN, UC R.1];simp only [go_sem, ir152, simprocAttr];refine sq (t.kind != 10) ?_ ?_
 ·exact zz trivial
 refine zz ?_;apply ik <;> intro h
 ·rw [if_pos (sX h)] at hR;rw [← hR];rfl
 rw [if_neg (sX h)] at hR;refine wc c ?_;apply ik <;> intro h
 ·simp only [decide_eq_true_eq] at h;cases e : JIM n t.fields with
  | none =>
   rw [e] at hR;rw [← hR];rfl
  | some i => rw [e] at hix; simp only at hix; omega
 ·simp only [decide_eq_false_iff_not] at h;cases e : JIM n t.fields with
  | none => rw [e] at hix; simp only at hix; omega
  | some i =>
   have hil : i < t.fields.length := by
    obtain ⟨h, _⟩ := List.findIdx?_eq_some_iff_getElem.1 e;exact h
   rw [e] at hix hR;simp only at hix hR;rw [Vl hil] at hR;subst hR;have hx := Yh hil;have c2 := (p195 t.fields[i]).call trivial;rw [UC] at c2;rw [hix];refine JM5 ?_;refine ⟨⟨oM, oM⟩, wn c2 ?_⟩;exact zz trivial
theorem walk88 (t : Typ) (n : Str) : PT 88 [Jk t, .str n] (.tup [.d (UW (JEw t n).1), .d (.bool (JEw t n).2)]) := by
 refine ok88.pc ?_;have c := (fnd_at n t fun x => JSJ x n).JSx (by simp [JU]) 3;generalize JEw t n = R at *;rw [JN, UC] at c;rw [JN, UC];simp only [go_sem, ir88, simprocAttr];refine wc c trivial
def rqT : Typ → List Part → Bool
 | _, [] => false
 | t, p :: r => if t.kind != 9 then false else if !(JEw t p.name).2 then false else if r.isEmpty then (JEw t p.name).1.need == 1 else rqT (JEw t p.name).1.type r
theorem JLq {l : List Part} {k : Nat} (h : k < l.length) : nth (l.map Jr) k = .agg [.int .i64 l[k].kind, .int .i64 l[k].index, .str l[k].name] := by
 rw [U2 (sX h), List.getElem_map];rfl
theorem walk43 (t : Typ) (l : List Part) (hl : l.length ≤ 1000000) : PT 43 [Jk t, .list 3 (l.map Jr)] (.d (.bool (rqT t l))) := by
 refine ok43.pc ?_;generalize hB : rqT t l = B;rw [JN];simp only [go_sem, ir43, Vc, simprocAttr];refine JJ (fun n s => ∃ (k : Nat) (T : Typ), k ≤ l.length ∧ n = l.length - k ∧ rqT T (l.drop k) = B ∧
  s = ⟨[(1, .d (.list 3 (l.map Jr))), (2, .ref 2 0), (9, .d (.list 3 (l.map Jr))), (10, .d (.int .i64 l.length)), (11, .d (.int .i64 k))],
   [(2, .box [.d (.int .i64 T.kind), .d (.int .i64 T.min), .d (.int .i64 T.max), .d (.int .i64 T.scale), .d (.list 1 (T.words.map .str)), .d (.list 7 (T.elem.map Jk)), .d (.list 11 (T.fields.map UW))])]⟩) ?_ ?_
 ·exact ⟨_, _, Wk.refl _, 0, t, Nat.zero_le _, rfl, hB, rfl⟩
 ·rintro n s ⟨k, T, hk, rfl, hinv, rfl⟩;by_cases hlt : k < l.length
  ·have hx := JLq hlt;have hd := dT hlt;rw [Vq hlt, rqT] at hinv;have hem : (l.drop (k + 1)).isEmpty = decide (k + 1 = l.length) := by
    cases e : l.drop (k + 1) with
    | nil =>
     have := congrArg List.length e;simp at this;simp; omega
    | cons a b =>
     have := congrArg List.length e;simp at this;simp; omega
   have c := (walk88 T l[k].name).call (by simp [JU]);generalize JEw T l[k].name = F at *;rw [JN, UC] at c;refine zz8 ?_;refine ⟨oM, ?_⟩;apply ik <;> intro h
   ·rw [if_pos h] at hinv;rw [← hinv]
   rw [if_neg (nF h)] at hinv;refine wc c ?_;apply ik <;> intro h2
   ·rw [if_pos h2] at hinv;rw [← hinv]
   rw [if_neg (nF h2)] at hinv;have hw : IntKind.i64.wrap (((l.map Jr).length : Int) - 1) = (l.length : Int) - 1 := by rw [IntKind.wrap_i64, Vc]; omega
   have he : ((k : Int) == (l.length : Int) - 1) = (l.drop (k + 1)).isEmpty := by
    rw [hem];by_cases e : k + 1 = l.length
    ·simp [e]; omega
    ·simp [e]; omega
   rw [hw, he];apply ik <;> intro h3
   ·rw [if_pos h3] at hinv;rw [← hinv]
   ·rw [if_neg (nF h3)] at hinv;refine ⟨l.length - (k + 1), _, oM, Wk.less ?_, k + 1, F.1.type, oM, rfl, hinv, rfl⟩;exact Y6 trivial
  ·have hd := dF hlt;refine JAl ?_;rw [List.drop_eq_nil_of_le oM] at hinv;rw [← hinv];rfl
theorem p80 (s : Str) : PT 80 [.str s] (.tup [.d (.list 3 ((JH s).1.map Jr)), .d (.int .i64 (JH s).2)]) :=
 Ui.Ju ok80.has fun h => JCc s (by have := h _ (Vh); simpa [fits] using this)
noncomputable def JCs (m : List Rule) : List (List Part) := m.map fun r => (JH r.target).1
theorem walk87 (m : List Rule) : PT 87 [Yv m] (.d (.list 1 ((JCs m).map UX))) := by
 refine Ui.Ju ok87.has fun hfit => ?_
 have hml : m.length ≤ 68719476736 := by
  have := hfit _ (Vh);simp only [Yv, fits, XL, Vc, and_true] at this;exact this.1
 refine ok87.pc ?_;simp only [Yv];simp only [go_sem, ir87, Vc, simprocAttr];refine JJ (fun n s => ∃ k : Nat, k ≤ m.length ∧ n = m.length - k ∧
  s = ⟨[(3, .ms 24 k), (9, .d (.list 6 (m.map Yg))), (10, .d (.int .i64 m.length)), (11, .d (.int .i64 k))],
   [(24, .row k 1 ((JCs (m.take k)).map UX))]⟩) ?_ ?_
 ·refine ⟨_, _, (Wk.JId 3 24 1 rfl rfl dC).trans (Wk.less ?_), 0, Nat.zero_le _, rfl, rfl⟩;simp [go_sem, put, JCs]
 ·rintro n s ⟨k, hk, rfl, rfl⟩;by_cases hlt : k < m.length
  ·have hx := JBn hlt;have hd := dT hlt;have hc := (p80 m[k].target).call (by simp [JU]);refine zz8 ?_;refine ⟨oM, wn hc ?_⟩;refine zz ?_;refine ⟨sP, by simp [JCs]; omega, ?_⟩;refine ⟨m.length - (k + 1), _, oM, Wk.less ?_, k + 1, oM, rfl, rfl⟩;rw [List.take_succ_eq_append_getElem hlt, JCs, Vw, Vw];simp only [go_sem, Jj k oM, Va, Vb, UX, JCs, simprocAttr]
  ·have hd := dF hlt;obtain rfl : k = m.length := oM;simp only [go_sem, hd, List.take_length, JB5, simprocAttr]
abbrev bxV (v : Val) : Av.Obj := .box [.d (.int .i64 v.kind), .d (.int .i64 v.int), .d (.int .i64 v.scale), .d (.str v.text), .d (.list 6 (v.list.map JB)), .d (.list 7 (v.fields.map Jh))]
theorem con42 (m : List Rule) (env : Val) : KT 42 [.d (Yv m), .d (JB env), .ref 1000 0] [(1000, .box [.d (.int .i64 0)])] (.clo (.func 86) [] [.ref 3 0, .ref 4 0, .ref 5 0])
  [(3, .box [.d (.list 6 (m.map Yg))]), (4, bxV env), (5, .box [.ref 1000 0])] := by
 refine ok42.co (k := true) (Jd (by simp [UA, put, Jc, J4, JP, JW, Av.get])) (by simp [JD, upd, inT, JW, JP]) ?_;rw [JA];simp only [Yv];simp only [go_sem, ir42, simprocAttr]
 try simp
theorem call42 (m : List Rule) (env : Val) : JQ Tryz.prog (.fn 42) [.d (Yv m), .d (JB env), .ref 9 0] [(9, some (.box [.d (.int .i64 0)])), (103, none), (104, none), (105, none)] (.clo (.func 86) [] [.ref 103 0, .ref 104 0, .ref 105 0])
    [(103, .box [.d (.list 6 (m.map Yg))]), (104, bxV env), (105, .box [.ref 9 0])] := by
  have hd : ∀ j, (JD (Av.get [(1000, Obj.box [Av.d (Dat.int IntKind.i64 0)])]) [(3, .box [.d (.list 6 (m.map Yg))]), (4, bxV env), (5, .box [.ref 1000 0])] j).isSome = true → j = 1000 ∨ j = 3 ∨ j = 4 ∨ j = 5 := by
    intro j h
    simp only [JD, upd, JJi] at h
    split at h
    · rename_i e; simp [e]
    · split at h
      · rename_i e; simp [e]
      · split at h
        · rename_i e; simp [e]
        · split at h
          · rename_i e; simp [e]
          · cases h
  have := (con42 m env).call (fun i => if i = 1000 then 9 else i + 100) (by intro j h; rw [JJi] at h; split at h; · omega
                                                                            · cases h) ?_ ?_ ?_ [3, 4, 5] ?_ ?_ ?_
  · simp only [Av.ren, Obj.ren, J1, Va, Vb, List.append_nil, List.cons_append, List.nil_append, Nat.reduceAdd, Nat.reduceEqDiff, Nat.reduceBEq, Nat.reduceLeDiff, reduceCtorEq, ↓reduceIte] at this
    exact this
  · intro a b ha hb e
    rcases hd a ha with rfl | rfl | rfl | rfl <;> rcases hd b hb with rfl | rfl | rfl | rfl <;> first | rfl | (simp at e; done)
  · intro c hc
    simp only [VA, List.not_mem_nil, or_false] at hc
    rcases hc with rfl | rfl | rfl
    · trivial
    · trivial
    · simp [inT, JJi, JW]
  · exact UZ (by simp [Jc, J4, JP, JW])
  · intro e he
    simp only [VA, List.not_mem_nil, or_false] at he
    rcases he with rfl | rfl | rfl <;> exact .inr (by simp)
  · exact Jd (by simp [UA, put, Jc, J4, JP, JW, Av.get])
  · simp [JD, upd, inT, JW, JP]
end Go.Proofs
namespace Go.Proofs
open Go Av Go.RowKit
abbrev bxT (T : Typ) : Av.Obj := .box [.d (.int .i64 T.kind), .d (.int .i64 T.min), .d (.int .i64 T.max), .d (.int .i64 T.scale), .d (.list 1 (T.words.map .str)), .d (.list 7 (T.elem.map Jk)), .d (.list 11 (T.fields.map UW))]
abbrev bxI (n : Int) : Av.Obj := .box [.d (.int .i64 n)]
def tmA : List (Nat × Av) := [(5, .ref 1005 0), (6, .ref 1006 0), (7, .d (.int .i64 0)), (9, .ref 1009 0), (10, .ref 1010 0), (11, .ref 1011 0), (12, .ref 1012 0), (30, .clo (.func 86) [] [.ref 1103 0, .ref 1104 0, .ref 1105 0])]
noncomputable def lpA : Lp := ⟨tmA, 82, #[31, 32], Xs (U3 Tryz.f12) [1, 1, 1, 1, 1, 0, 1, 0, 0], Xs (U3 Tryz.f12) [1, 1, 1, 1, 1, 0, 1, 0, 1], .ready, none⟩
noncomputable abbrev TA (m : List Rule) (env : Val) (t : Typ) (q : Int) (o : Val) (f : Int) (a : Bool) : List (Nat × Av.Obj) :=
 [(1000, .lp lpA), (1005, bxT t), (1006, .box [.d (.int .i64 0), .d (.int .i64 0), .d (.int .i64 0), .d (.str []), .d (.nil 6), .d (.nil 7)]), (1009, bxI q), (1010, bxV o), (1011, bxI f), (1012, .box [.d (.bool a)]),
  (1103, .box [.d (.list 6 (m.map Yg))]), (1104, bxV env), (1105, .box [.ref 1009 0])]
abbrev upA (o : Val) (f : Int) (a : Bool) : List (Nat × Av.Obj) := [(1010, bxV o), (1011, bxI f), (1012, .box [.d (.bool a)])]
theorem JK2 (m : List Rule) (env : Val) (t : Typ) (q : Int) (o : Val) (f : Int) (a : Bool) : closed (Av.get (TA m env t q o f a)) := by
 refine UZ ?_;simp [TA, Jc, J4, JP, JW, U9, tmA, lpA, Av.get]
theorem JB9 (m : List Rule) (env : Val) (t : Typ) (q : Int) (o o' : Val) (f f' : Int) (a a' : Bool) : UA (TA m env t q o f a) (upA o' f' a') = TA m env t q o' f' a' := by
 simp [upA, TA, UA, put]
theorem JIO (m : List Rule) (env : Val) (t : Typ) (q : Int) (o o' : Val) (f f' : Int) (a a' : Bool) : closed (JD (Av.get (TA m env t q o f a)) (upA o' f' a')) := by
 refine Jd ?_;rw [JB9];simp [TA, Jc, J4, JP, JW, U9, tmA, lpA, Av.get]
noncomputable def nxA (t : Typ) (p : List Part) (v : Val) (o : Val) (f : Int) (a : Bool) : Val × Int × Bool :=
 if f = 0 then ((XJ p o v).1, (XJ p o v).2, a || (Uh v && rqT t p)) else (o, f, a || (Uh v && rqT t p))
theorem roundA (m : List Rule) (env : Val) (t : Typ) (q : Int) (o : Val) (f : Int) (a : Bool) (p : List Part) (v : Val) (hp : p ≠ []) (hl : p.length ≤ 1000000) :
  JDI Tryz.prog 1000 [.d (UX p), .d (JB v)] (TA m env t q o f a) (.d (.bool true)) (upA (nxA t p v o f a).1 (nxA t p v o f a).2.1 (nxA t p v o f a).2.2) := by
 refine JDI.Ze (asg := JON) (body := JJV) rfl rfl kR kR rfl (show ∀ p ∈ [31, 32], p < 82 by decide) ?_ ?_
 ·exact JIO m env t q o _ f _ a _
 ·have c13 := (JAC v).call trivial;have c43 := (walk43 t p hl).call trivial;have c44 := (JO4 p o v hp).call (by simp [JU]);generalize hN : nxA t p v o f a = N;unfold nxA at hN;generalize XJ p o v = P at *;rw [JA o, JA v, JA P.1] at c44;rw [JA v] at c13 ⊢;rw [JN] at c43;have fin : ∀ (tm : List (Nat × Av)), True := fun _ => trivial
  cases a with
  | true =>
   refine zz83 ?_;refine ⟨_, rfl, rfl, ?_⟩;apply ik <;> intro h
   ·rw [if_pos (sX h)] at hN;subst hN;refine wn c44 ?_;refine JHY ?_;refine ⟨_, _, rfl, rfl, ⟨[], TA m env t q P.1 P.2 true⟩, Wk.less ?_, ?_⟩
    ·simp [put, tmA, lpA, TA, bxV, bxT, bxI, go_sem]
    ·intro i o h;rw [← h, ← Jg];exact congrArg (fun l => Av.get l i) (JB9 m env t q _ _ _ _ _ _).symm
   ·rw [if_neg (sX h)] at hN;subst hN;refine ⟨_, _, rfl, rfl, ⟨[], TA m env t q o f true⟩, Wk.less ?_, ?_⟩
    ·simp [put, tmA, lpA, TA, bxV, bxT, bxI, go_sem]
    ·intro i o h;rw [← h, ← Jg];exact congrArg (fun l => Av.get l i) (JB9 m env t q _ _ _ _ _ _).symm
  | false =>
   refine zz83 ?_;refine ⟨_, rfl, rfl, wn c13 ?_⟩;cases hv : Uh v with
   | false =>
    rw [hv] at hN;refine JHY ?_;apply ik <;> intro h
    ·rw [if_pos (sX h)] at hN;subst hN;refine wn c44 ?_;refine JHY ?_;refine ⟨_, _, rfl, rfl, ⟨[], TA m env t q P.1 P.2 false⟩, Wk.less ?_, ?_⟩
     ·simp [put, tmA, lpA, TA, bxV, bxT, bxI, go_sem]
     ·intro i o h;rw [← h, ← Jg];exact congrArg (fun l => Av.get l i) (JB9 m env t q _ _ _ _ _ _).symm
    ·rw [if_neg (sX h)] at hN;subst hN;refine ⟨_, _, rfl, rfl, ⟨[], TA m env t q o f false⟩, Wk.less ?_, ?_⟩
     ·simp [put, tmA, lpA, TA, bxV, bxT, bxI, go_sem]
     ·intro i o h;rw [← h, ← Jg];exact congrArg (fun l => Av.get l i) (JB9 m env t q _ _ _ _ _ _).symm
   | true =>
    rw [hv] at hN;refine JHY ?_;refine wn c43 ?_;generalize rqT t p = b at *;cases b with
    | false =>
     refine JHY ?_;apply ik <;> intro h
     ·rw [if_pos (sX h)] at hN;subst hN;refine wn c44 ?_;refine JHY ?_;refine ⟨_, _, rfl, rfl, ⟨[], TA m env t q P.1 P.2 false⟩, Wk.less ?_, ?_⟩
      ·simp [put, tmA, lpA, TA, bxV, bxT, bxI, go_sem]
      ·intro i o h;rw [← h, ← Jg];exact congrArg (fun l => Av.get l i) (JB9 m env t q _ _ _ _ _ _).symm
     ·rw [if_neg (sX h)] at hN;subst hN;refine ⟨_, _, rfl, rfl, ⟨[], TA m env t q o f false⟩, Wk.less ?_, ?_⟩
      ·simp [put, tmA, lpA, TA, bxV, bxT, bxI, go_sem]
      ·intro i o h;rw [← h, ← Jg];exact congrArg (fun l => Av.get l i) (JB9 m env t q _ _ _ _ _ _).symm
    | true =>
     refine JHY ?_;apply ik <;> intro h
     ·rw [if_pos (sX h)] at hN;subst hN;refine wn c44 ?_;refine JHY ?_;refine ⟨_, _, rfl, rfl, ⟨[], TA m env t q P.1 P.2 true⟩, Wk.less ?_, ?_⟩
      ·simp [put, tmA, lpA, TA, bxV, bxT, bxI, go_sem]
      ·intro i o h;rw [← h, ← Jg];exact congrArg (fun l => Av.get l i) (JB9 m env t q _ _ _ _ _ _).symm
     ·rw [if_neg (sX h)] at hN;subst hN;refine ⟨_, _, rfl, rfl, ⟨[], TA m env t q o f true⟩, Wk.less ?_, ?_⟩
      ·simp [put, tmA, lpA, TA, bxV, bxT, bxI, go_sem]
      ·intro i o h;rw [← h, ← Jg];exact congrArg (fun l => Av.get l i) (JB9 m env t q _ _ _ _ _ _).symm
theorem JO7 {m : List Rule} {env : Val} {t : Typ} {q : Int} {o : Val} {f : Int} {a : Bool} {i : Nat} (h : (Av.get (TA m env t q o f a) i).isSome = true) :
  i = 1000 ∨ i = 1005 ∨ i = 1006 ∨ i = 1009 ∨ i = 1010 ∨ i = 1011 ∨ i = 1012 ∨ i = 1103 ∨ i = 1104 ∨ i = 1105 := by
 simp only [TA, Av.get] at h
 repeat' split at h
 all_goals first | (cases h; done) | skip
 all_goals rename_i e
 all_goals first | omega | skip
theorem yieldA (m : List Rule) (env : Val) (t : Typ) (q : Int) (o : Val) (f : Int) (a : Bool) (p : List Part) (v : Val) (hp : p ≠ []) (hl : p.length ≤ 1000000) :
  CT .yld [.mp 1000, .d (UX p), .d (JB v)] ((TA m env t q o f a).map fun x => (x.1, some x.2)) (.d (.bool true)) (upA (nxA t p v o f a).1 (nxA t p v o f a).2.1 (nxA t p v o f a).2.2) := by
 have := (roundA m env t q o f a p v hp hl).call (fun i => i) ⟨_, rfl⟩ (fun i j _ _ h => h) (by simp [JW]) (JK2 m env t q o f a) [] (by simp [Av.get]) (JIO m env t q o _ f _ a _) trivial;simp only [TA, upA, bxV, bxT, bxI, Va, Vb, Obj.ren, Av.ren, J1, lpA, tmA, YJ, List.append_nil] at this ⊢;exact this
abbrev upB (R : Val × Int × Bool × Int) : List (Nat × Av.Obj) := [(1009, bxI R.2.2.2), (1010, bxV R.1), (1011, bxI R.2.1), (1012, .box [.d (.bool R.2.2.1)])]
theorem putsB (m : List Rule) (env : Val) (t : Typ) (q : Int) (o : Val) (f : Int) (a : Bool) (R : Val × Int × Bool × Int) : UA (TA m env t q o f a) (upB R) = TA m env t R.2.2.2 R.1 R.2.1 R.2.2.1 := by
 simp [upB, TA, UA, put]
theorem JIP (m : List Rule) (env : Val) (t : Typ) (q : Int) (o : Val) (f : Int) (a : Bool) (R : Val × Int × Bool × Int) : closed (JD (Av.get (TA m env t q o f a)) (upB R)) := by
 refine Jd ?_;rw [putsB];simp [TA, Jc, J4, JP, JW, U9, tmA, lpA, Av.get]
theorem con86 (m : List Rule) (env : Val) (t : Typ) (ev : Exp → Val × Int) (hev : ∀ r ∈ m, PT 18 [JL r.expr, JB env] (.tup [.d (JB (ev r.expr).1), .d (.int .i64 (ev r.expr).2)]))
  (hn : ∀ r ∈ m, (JH r.target).1 ≠ [] ∧ (JH r.target).1.length ≤ 1000000) (hm : m.length ≤ 1000000) :
  KT 86 [.mp 1000, .ref 1103 0, .ref 1104 0, .ref 1105 0] (TA m env t 0 UB 0 false) (.tup []) (upB (UO ev (rqT t) m UB 0 false)) := by
 refine ok86.co (k := false) (JIP m env t 0 UB 0 false _) trivial ?_;have c87 := (walk87 m).call trivial;simp only [Yv] at c87;generalize hR : UO ev (rqT t) m UB 0 false = R;simp only [TA, ir86, lpA, tmA, upA, bxV, bxT, bxI, go_sem, Nat.reduceAdd, Nat.reduceEqDiff, Nat.reduceBEq, Nat.reduceLeDiff, reduceCtorEq, ↓reduceIte];refine wn c87 ?_;refine zz84 ?_;refine JJ (fun n s => ∃ (k : Nat) (o : Val) (f : Int) (a : Bool), k ≤ m.length ∧ n = m.length - k ∧ UO ev (rqT t) (m.drop k) o f a = R ∧
  s = ⟨[(0, .mp 1000), (1, .ref 1103 0), (2, .ref 1104 0), (3, .ref 1105 0), (5, .d (.list 1 ((JCs m).map UX))), (13, .d (.list 6 (m.map Yg))), (14, .d (.int .i64 m.length)), (15, .d (.int .i64 k))], TA m env t 0 o f a⟩) ?_ ?_
 ·refine ⟨_, _, Wk.refl _, 0, UB, 0, false, Nat.zero_le _, rfl, hR, ?_⟩;rw [Vc];rfl
 ·rintro n s ⟨k, o, f, a, hk, rfl, hinv, rfl⟩;by_cases hlt : k < m.length
  ·have hx := JBn hlt;have hd := dT hlt;have hmem := Vk hlt;obtain ⟨n1, n2⟩ := hn m[k] hmem;have c18 := (hev m[k] hmem).call (by simp [JU]);have hp : nth ((JCs m).map UX) k = UX (JH m[k].target).1 := by
    rw [U2 (by simpa [JCs] using hlt), List.getElem_map];simp [JCs]
   have hpl : ((JCs m).map UX).length = m.length := by simp [JCs]
   rw [Vq hlt, UO] at hinv;have cy := yieldA m env t 0 o f a (JH m[k].target).1 (ev m[k].expr).1 n1 n2;generalize hN : nxA t (JH m[k].target).1 (ev m[k].expr).1 o f a = N at cy;unfold nxA at hN;rw [JA env, JE] at c18;generalize ev m[k].expr = E at *;rw [JA E.1] at c18 cy;simp only [UX] at hp cy;generalize (JCs m).map UX = PL at *;simp only [TA, hx, hd, hp, Vv, Vc, lpA, tmA, upA, bxV, bxT, bxI, go_sem, Nat.reduceAdd, Nat.reduceEqDiff, Nat.reduceBEq, Nat.reduceLeDiff, reduceCtorEq, ↓reduceIte];refine ⟨oM, wn c18 ?_⟩;refine zz84 ?_;apply ik <;> intro h
   ·rw [if_pos (sX h)] at hinv;subst hinv;exact ⟨rfl, rfl, rfl, rfl, rfl, rfl, rfl, rfl⟩
   ·rw [if_neg (sX h)] at hinv;simp only [TA, Vv, hp, lpA, tmA, upA, bxV, bxT, bxI, go_sem, Nat.reduceAdd, Nat.reduceEqDiff, Nat.reduceBEq, Nat.reduceLeDiff, reduceCtorEq, ↓reduceIte];refine ⟨oM, sP, UU rfl cy ⟨rfl, rfl, rfl, rfl, rfl, rfl, rfl, rfl, rfl, rfl, trivial⟩ ?_⟩;simp only [TA, upA, Vr, lpA, tmA, upA, bxV, bxT, bxI, go_sem, Nat.reduceAdd, Nat.reduceEqDiff, Nat.reduceBEq, Nat.reduceLeDiff, reduceCtorEq, ↓reduceIte];refine ⟨m.length - (k + 1), _, oM, Wk.less ?_, k + 1, N.1, N.2.1, N.2.2, oM, rfl, ?_, rfl⟩
    ·simp only [TA, lpA, tmA, upA, go_sem, Jj k oM, Nat.reduceAdd, Nat.reduceEqDiff, Nat.reduceBEq, Nat.reduceLeDiff, reduceCtorEq, ↓reduceIte]
    ·rw [← hinv];by_cases hf : f = 0
     ·rw [if_pos hf] at hN ⊢;rw [← hN]
     ·rw [if_neg hf] at hN ⊢;rw [← hN]
  ·have hd := dF hlt;rw [List.drop_eq_nil_of_le oM, UO] at hinv;subst hinv;simp only [TA, hd, lpA, tmA, upA, bxV, bxT, bxI, go_sem, Nat.reduceAdd, Nat.reduceEqDiff, Nat.reduceBEq, Nat.reduceLeDiff, reduceCtorEq, ↓reduceIte]
theorem JO8 {m : List Rule} {env : Val} {t : Typ} {q : Int} {o : Val} {f : Int} {a : Bool} {R : Val × Int × Bool × Int} {i : Nat} (h : (JD (Av.get (TA m env t q o f a)) (upB R) i).isSome = true) :
  i = 1000 ∨ i = 1005 ∨ i = 1006 ∨ i = 1009 ∨ i = 1010 ∨ i = 1011 ∨ i = 1012 ∨ i = 1103 ∨ i = 1104 ∨ i = 1105 := by
 rw [← Jg, putsB] at h;exact JO7 h
abbrev rhoA (i : Nat) : Nat := if i = 1000 then 113 else i - 1000
noncomputable abbrev lpB : Av.Obj := .lp ⟨[(5, .ref 5 0), (6, .ref 6 0), (7, .d (.int .i64 0)), (9, .ref 9 0), (10, .ref 10 0), (11, .ref 11 0), (12, .ref 12 0), (30, .clo (.func 86) [] [.ref 103 0, .ref 104 0, .ref 105 0])], 82, #[31, 32], Xs (U3 Tryz.f12) [1, 1, 1, 1, 1, 0, 1, 0, 0], Xs (U3 Tryz.f12) [1, 1, 1, 1, 1, 0, 1, 0, 1], .ready, none⟩
theorem call86 (m : List Rule) (env : Val) (t : Typ) (ev : Exp → Val × Int) (hev : ∀ r ∈ m, PT 18 [JL r.expr, JB env] (.tup [.d (JB (ev r.expr).1), .d (.int .i64 (ev r.expr).2)]))
  (hn : ∀ r ∈ m, (JH r.target).1 ≠ [] ∧ (JH r.target).1.length ≤ 1000000) (hm : m.length ≤ 1000000) :
  CT (.fn 86) [.mp 113, .ref 103 0, .ref 104 0, .ref 105 0]
   [(113, some lpB), (5, some (bxT t)), (6, some (.box [.d (.int .i64 0), .d (.int .i64 0), .d (.int .i64 0), .d (.str []), .d (.nil 6), .d (.nil 7)])), (9, some (bxI 0)), (10, some (bxV UB)), (11, some (bxI 0)), (12, some (.box [.d (.bool false)])),
    (103, some (.box [.d (.list 6 (m.map Yg))])), (104, some (bxV env)), (105, some (.box [.ref 9 0]))] (.tup [])
   [(9, bxI (UO ev (rqT t) m UB 0 false).2.2.2), (10, bxV (UO ev (rqT t) m UB 0 false).1), (11, bxI (UO ev (rqT t) m UB 0 false).2.1), (12, .box [.d (.bool (UO ev (rqT t) m UB 0 false).2.2.1)])] := by
 have := (con86 m env t ev hev hn hm).call rhoA (fun i hi => by rcases JO7 hi with rfl | rfl | rfl | rfl | rfl | rfl | rfl | rfl | rfl | rfl <;> decide)
  (fun i j hi hj h => by rcases JO8 hi with rfl | rfl | rfl | rfl | rfl | rfl | rfl | rfl | rfl | rfl <;> rcases JO8 hj with rfl | rfl | rfl | rfl | rfl | rfl | rfl | rfl | rfl | rfl <;> first | rfl | (exact absurd h dC))
  (by simp [JW, Av.get]) (JK2 m env t 0 UB 0 false) [] (by simp [Av.get]) (JIP m env t 0 UB 0 false _) trivial
 generalize UO ev (rqT t) m UB 0 false = R at *;simp only [TA, upB, rhoA, bxV, bxT, bxI, Va, Vb, Obj.ren, Av.ren, J1, lpA, tmA, YJ, List.append_nil, Nat.reduceSub, simprocAttr] at this;exact this
noncomputable def JIQ (ev : Exp → Val × Int) (cmp : Typ → Val → Val × Int) (m : List Rule) (env : Val) (t : Typ) : Val × Int :=
 if XZ m ≠ 0 then (zeroV, XZ m) else if env.kind ≠ 9 then (zeroV, 11) else
 if (UO ev (rqT t) m UB 0 false).2.2.2 ≠ 0 then (zeroV, (UO ev (rqT t) m UB 0 false).2.2.2) else if (UO ev (rqT t) m UB 0 false).2.1 ≠ 0 then (zeroV, (UO ev (rqT t) m UB 0 false).2.1) else
 if (UO ev (rqT t) m UB 0 false).2.2.1 then (zeroV, 19) else if (cmp t (UO ev (rqT t) m UB 0 false).1).2 ≠ 0 then (zeroV, (cmp t (UO ev (rqT t) m UB 0 false).1).2) else
 if JDO (cmp t (UO ev (rqT t) m UB 0 false).1).1 ≠ 0 then (zeroV, JDO (cmp t (UO ev (rqT t) m UB 0 false).1).1) else ((cmp t (UO ev (rqT t) m UB 0 false).1).1, 0)
theorem p41 (m : List Rule) : PT 41 [Yv m] (.d (.int .i64 (XZ m))) := Ui.Ju ok41.has fun h => walk41 m fun r hr => by
 have := h _ (Vh);simp only [Yv, fits, XL, Vc, and_true] at this;have h2 := UQ.1 this.2 (Yg r) (VC.2 ⟨r, hr, rfl⟩);simp only [Yg, fits, XL] at h2;exact h2.1
theorem walk12 (ev : Exp → Val × Int) (cmp : Typ → Val → Val × Int) (m : List Rule) (env : Val) (t : Typ) (hm : m.length ≤ 1000000)
  (hev : ∀ r ∈ m, PT 18 [JL r.expr, JB env] (.tup [.d (JB (ev r.expr).1), .d (.int .i64 (ev r.expr).2)]))
  (hc : XZ m = 0 → (UO ev (rqT t) m UB 0 false).2.2.2 = 0 → (UO ev (rqT t) m UB 0 false).2.1 = 0 → PT 45 [Jk t, JB (UO ev (rqT t) m UB 0 false).1] (.tup [.d (JB (cmp t (UO ev (rqT t) m UB 0 false).1).1), .d (.int .i64 (cmp t (UO ev (rqT t) m UB 0 false).1).2)])) :
  PT 12 [Yv m, JB env, Jk t] (.tup [.d (JB (JIQ ev cmp m env t).1), .d (.int .i64 (JIQ ev cmp m env t).2)]) := by
 refine ok12.pc ?_;have c41 := (p41 m).call trivial;have c35 := JO2.call trivial;have c42 := call42 m env;have c86 := fun h1 h2 => call86 m env t ev hev h1 h2
 generalize hP : JIQ ev cmp m env t = P;unfold JIQ at hP;rw [JA UB] at c35;rw [JA env] at c42 ⊢;simp only [Yv] at c41 c42 ⊢;rw [JN t];rw [JA P.1];have hfm : XZ m = 0 → ∀ r ∈ m, (JH r.target).1 ≠ [] ∧ (JH r.target).1.length ≤ 1000000 := fun h r hr => by
  obtain ⟨f1, f2⟩ := (JAd m).1 h |>.2.1 r hr;obtain ⟨p1, p2, p3⟩ := JCp f1;exact ⟨p1, oM⟩
 generalize XZ m = F at *;simp only [go_sem, ir12, simprocAttr];refine wc c41 ?_;apply ik <;> intro h
 ·rw [if_pos (sX h)] at hP;rw [← hP];rfl
 have h0 : F = 0 := sX h;rw [if_neg (sX h0)] at hP;apply ik <;> intro h
 ·rw [if_pos (sX h)] at hP;rw [← hP];rfl
 rw [if_neg (sX h)] at hP;refine JFh rfl c35 ?_;refine zz ?_;refine UU rfl c42 ⟨rfl, rfl, rfl, rfl, trivial⟩ ?_;refine zz ?_;have c86 := c86 (hfm h0) hm;have hc := hc h0;generalize UO ev (rqT t) m UB 0 false = R at *;refine JDb rfl rfl ok86.has c86 ⟨rfl, rfl, rfl, rfl, rfl, rfl, rfl, rfl, rfl, rfl, trivial⟩ rfl sP (.inl ⟨rfl, ?_⟩);simp only [bxV, bxT, bxI, go_sem, simprocAttr];apply ik <;> intro h1
 ·rw [if_pos (sX h1)] at hP;rw [← hP];exact ⟨dC, rfl⟩
 rw [if_neg (sX h1)] at hP;apply ik <;> intro h2
 ·rw [if_pos (sX h2)] at hP;rw [← hP];exact ⟨dC, rfl⟩
 rw [if_neg (sX h2)] at hP;apply ik <;> intro h3
 ·rw [if_pos h3] at hP;rw [← hP];rfl
 rw [if_neg (nF h3)] at hP;have c45 := (hc (sX h1) (sX h2)).call (by simp [JU]);have c15 := (JJX (cmp t R.1).1).call trivial;generalize cmp t R.1 = C at *;rw [JN, JA R.1, JA C.1] at c45;rw [JA C.1] at c15;refine wc c45 ?_;apply ik <;> intro h4
 ·rw [if_pos (sX h4)] at hP;rw [← hP];rfl
 rw [if_neg (sX h4)] at hP;refine wc c15 ?_;apply ik <;> intro h5
 ·rw [if_pos (sX h5)] at hP;rw [← hP];rfl
 rw [if_neg (sX h5)] at hP;rw [← hP]
end Go.Proofs
namespace Go.Proofs
open Go Av
def JAf : List Fld → Bool
 | a :: b :: r => strLt a.name b.name && JAf (b :: r)
 | _ => true
def zI (v : Val) : Bool := v.int == 0
def zS (v : Val) : Bool := v.scale == 0
def zT (v : Val) : Bool := v.text == []
def zL (v : Val) : Bool := ((v.list.length : Nat) : Int) == 0
def zF' (v : Val) : Bool := ((v.fields.length : Nat) : Int) == 0
def Zi (v : Val) : Bool :=
 if v.kind == 1 then !(v.int != 0 && v.int != 1) && (((zS v && zT v) && zL v) && zF' v)
 else if v.kind == 2 then (((zS v && zT v) && zL v) && zF' v)
 else if v.kind == 6 then (((zS v && zT v) && zL v) && zF' v)
 else if v.kind == 7 then (((zS v && zT v) && zL v) && zF' v)
 else if v.kind == 3 then ((zT v && zL v) && zF' v)
 else if v.kind == 4 then Za v.text && (((zI v && zS v) && zL v) && zF' v)
 else if v.kind == 5 then (((zI v && zS v) && zL v) && zF' v)
 else if v.kind == 8 then (((zI v && zS v) && zT v) && zF' v)
 else if v.kind == 9 then JAf v.fields && (((zI v && zS v) && zT v) && zL v)
 else if v.kind == 10 then !(((v.list.length : Nat) : Int) != 1) && ((zI v && zS v) && zF' v)
 else ((((zI v && zS v) && zT v) && zL v) && zF' v)
theorem JO9 (v : Val) : PT 93 [JB v] (.d (.bool (Zi v))) := by
 refine Ui.Ju ok93.has fun hfit => ?_
 have hfl := (YT (hfit _ (Vh))).2.2;refine ok93.pc ?_;have c160 := (JKm v.text).call trivial;generalize hR : Zi v = R;unfold Zi zI zS zT zL zF' at hR;rw [JA v];simp only [go_sem, ir93, Vr, Vs, Vt, Bool.false_and, Bool.and_true, Bool.and_false, Nat.reduceAdd, Nat.reduceEqDiff, Nat.reduceBEq, Nat.reduceLeDiff, Int.reduceBEq, reduceCtorEq, ↓reduceIte];apply ik <;> intro h1
 ·rw [if_pos h1] at hR;refine sq (v.int != 1) ?_ ?_
  ·exact zz3 trivial
  refine zz3 ?_;apply ik <;> intro h
  ·rw [h] at hR;rw [← hR];rfl
  rw [h, Vs, Vt] at hR
  try refine zz3 ?_
  refine sq (v.text == []) ?_ ?_
  ·exact zz3 trivial
  refine zz3 ?_;refine sq (((v.list.length : Nat) : Int) == 0) ?_ ?_
  ·exact zz3 trivial
  refine zz3 ?_;refine sq (((v.fields.length : Nat) : Int) == 0) ?_ ?_
  ·exact zz3 trivial
  refine zz3 ?_
  try rw [← hR]
  try simp
 rw [if_neg (nF h1)] at hR;apply ik <;> intro h2
 ·rw [if_pos h2] at hR
  try simp only [h2, JAT]
  try refine zz85 ?_
  refine sq (v.text == []) ?_ ?_
  ·exact zz3 trivial
  refine zz3 ?_;refine sq (((v.list.length : Nat) : Int) == 0) ?_ ?_
  ·exact zz3 trivial
  refine zz3 ?_;refine sq (((v.fields.length : Nat) : Int) == 0) ?_ ?_
  ·exact zz3 trivial
  refine zz3 ?_
  try rw [← hR]
  try simp
 rw [if_neg (nF h2)] at hR
 try refine zz85 ?_
 apply ik <;> intro h6
 ·rw [if_pos h6] at hR
  try simp only [h6, JAT]
  try refine zz86 ?_
  refine sq (v.text == []) ?_ ?_
  ·exact zz3 trivial
  refine zz3 ?_;refine sq (((v.list.length : Nat) : Int) == 0) ?_ ?_
  ·exact zz3 trivial
  refine zz3 ?_;refine sq (((v.fields.length : Nat) : Int) == 0) ?_ ?_
  ·exact zz3 trivial
  refine zz3 ?_
  try rw [← hR]
  try simp
 rw [if_neg (nF h6)] at hR
 try refine zz86 ?_
 apply ik <;> intro h7
 ·rw [if_pos h7] at hR
  try simp only [h7, JAT]
  try refine zz87 ?_
  refine sq (v.text == []) ?_ ?_
  ·exact zz3 trivial
  refine zz3 ?_;refine sq (((v.list.length : Nat) : Int) == 0) ?_ ?_
  ·exact zz3 trivial
  refine zz3 ?_;refine sq (((v.fields.length : Nat) : Int) == 0) ?_ ?_
  ·exact zz3 trivial
  refine zz3 ?_
  try rw [← hR]
  try simp
 rw [if_neg (nF h7)] at hR
 try refine zz87 ?_
 apply ik <;> intro h3
 ·rw [if_pos h3] at hR;refine sq (((v.list.length : Nat) : Int) == 0) ?_ ?_
  ·exact zz3 trivial
  refine zz3 ?_;refine sq (((v.fields.length : Nat) : Int) == 0) ?_ ?_
  ·exact zz3 trivial
  refine zz3 ?_
  try rw [← hR]
  try simp
 rw [if_neg (nF h3)] at hR;apply ik <;> intro h4
 ·rw [if_pos h4] at hR;refine wn c160 ?_;refine zz3 ?_;apply ik <;> intro h
  ·rw [show Za v.text = false by simpa using h] at hR;rw [← hR];rfl
  rw [show Za v.text = true by simpa using h, Vt] at hR
  try refine zz3 ?_
  refine sq (v.scale == 0) ?_ ?_
  ·exact zz3 trivial
  refine zz3 ?_;refine sq (true) ?_ ?_
  ·exact zz3 trivial
  refine zz3 ?_;refine sq (((v.list.length : Nat) : Int) == 0) ?_ ?_
  ·exact zz3 trivial
  refine zz3 ?_;refine sq (((v.fields.length : Nat) : Int) == 0) ?_ ?_
  ·exact zz3 trivial
  refine zz3 ?_
  try rw [← hR]
  try simp
 rw [if_neg (nF h4)] at hR;apply ik <;> intro h5
 ·rw [if_pos h5] at hR;refine sq (v.scale == 0) ?_ ?_
  ·exact zz3 trivial
  refine zz3 ?_;refine sq (true) ?_ ?_
  ·exact zz3 trivial
  refine zz3 ?_;refine sq (((v.list.length : Nat) : Int) == 0) ?_ ?_
  ·exact zz3 trivial
  refine zz3 ?_;refine sq (((v.fields.length : Nat) : Int) == 0) ?_ ?_
  ·exact zz3 trivial
  refine zz3 ?_
  try rw [← hR]
  try simp
 rw [if_neg (nF h5)] at hR;apply ik <;> intro h8
 ·rw [if_pos h8] at hR;refine sq (v.scale == 0) ?_ ?_
  ·exact zz3 trivial
  refine zz3 ?_;refine sq (v.text == []) ?_ ?_
  ·exact zz3 trivial
  refine zz3 ?_;refine sq (((0 : Nat) : Int) == 0) ?_ ?_
  ·exact zz3 trivial
  refine zz3 ?_;refine sq (((v.fields.length : Nat) : Int) == 0) ?_ ?_
  ·exact zz3 trivial
  refine zz3 ?_
  try rw [← hR]
  try simp
 rw [if_neg (nF h8)] at hR;apply ik <;> intro h9
 ·rw [if_pos h9] at hR;refine JJ (fun n s => ∃ k : Nat, 1 ≤ k ∧ n = v.fields.length + 1 - k ∧ (k ≤ v.fields.length ∨ k = 1) ∧ JAf v.fields = JAf (v.fields.drop (k - 1)) ∧
   s = ⟨[(1, .ref 1 0), (3, .ref 3 0), (4, .d (.int .i64 k))], [(1, bxV v), (3, bxV v)]⟩) ?_ ?_
  ·exact ⟨_, _, Wk.less (by simp [go_sem, bxV]), 1, Nat.le_refl _, rfl, .inr rfl, rfl, rfl⟩
  ·rintro n s ⟨k, hk1, rfl, hk2, hs, rfl⟩;simp only [bxV];by_cases hlt : k < v.fields.length
   ·have hlt1 : k - 1 < v.fields.length := oM;have hx := J5 hlt;have hx1 := J5 hlt1;have hd := dT hlt;have hw : IntKind.i64.wrap ((k : Int) - 1) = ((k - 1 : Nat) : Int) := by rw [IntKind.wrap_i64]; omega
    have hdr : v.fields.drop (k - 1) = v.fields[k - 1] :: v.fields[k] :: v.fields.drop (k + 1) := by
     rw [Vq hlt1, show k - 1 + 1 = k by omega, Vq hlt]
    rw [hdr, JAf] at hs;simp only [go_sem, hx, hx1, hd, hw, Vv, Vc, Vr, Vs, Vt, Bool.false_and, Bool.and_true, Bool.and_false, Nat.reduceAdd, Nat.reduceEqDiff, Nat.reduceBEq, Nat.reduceLeDiff, Int.reduceBEq, reduceCtorEq, ↓reduceIte];refine ⟨oM, oM, oM, oM, ?_⟩;apply ik <;> intro h
    ·rw [show strLt v.fields[k - 1].name v.fields[k].name = false by simpa using h, Bool.false_and] at hs;rw [hs, Bool.false_and] at hR;rw [← hR]
    ·rw [show strLt v.fields[k - 1].name v.fields[k].name = true by simpa using h, Vt, ← Vq hlt] at hs;refine ⟨v.fields.length + 1 - (k + 1), _, oM, Wk.less ?_, k + 1, oM, rfl, .inl oM, hs, rfl⟩;simp only [go_sem, bxV, Jj k oM, Vr, Vs, Vt, Bool.false_and, Bool.and_true, Bool.and_false, Nat.reduceAdd, Nat.reduceEqDiff, Nat.reduceBEq, Nat.reduceLeDiff, Int.reduceBEq, reduceCtorEq, ↓reduceIte]
   ·have hd := dF hlt;have hs1 : JAf v.fields = true := by
     rw [hs];have : (v.fields.drop (k - 1)).length ≤ 1 := sO
     match v.fields.drop (k - 1), this with
     | [], _ => rfl
     | [a], _ => rfl
    rw [hs1, Vt] at hR;simp only [go_sem, hd, Vc, Vr, Vs, Vt, Bool.false_and, Bool.and_true, Bool.and_false, Nat.reduceAdd, Nat.reduceEqDiff, Nat.reduceBEq, Nat.reduceLeDiff, Int.reduceBEq, reduceCtorEq, ↓reduceIte];refine sq (v.scale == 0) ?_ ?_
    ·exact zz3 trivial
    refine zz3 ?_;refine sq (v.text == []) ?_ ?_
    ·exact zz3 trivial
    refine zz3 ?_;refine sq (((v.list.length : Nat) : Int) == 0) ?_ ?_
    ·exact zz3 trivial
    refine zz3 ?_;refine sq (((0 : Nat) : Int) == 0) ?_ ?_
    ·exact zz3 trivial
    refine zz3 ?_
    try rw [← hR]
    try simp
 rw [if_neg (nF h9)] at hR;apply ik <;> intro h10
 ·rw [if_pos h10] at hR;apply ik <;> intro h
  ·rw [h] at hR;rw [← hR];rfl
  rw [h, Vs, Vt] at hR
  try refine zz3 ?_
  refine sq (v.scale == 0) ?_ ?_
  ·exact zz3 trivial
  refine zz3 ?_;refine sq (true) ?_ ?_
  ·exact zz3 trivial
  refine zz3 ?_;refine sq (((0 : Nat) : Int) == 0) ?_ ?_
  ·exact zz3 trivial
  refine zz3 ?_;refine sq (((v.fields.length : Nat) : Int) == 0) ?_ ?_
  ·exact zz3 trivial
  refine zz3 ?_
  try rw [← hR]
  try simp
 rw [if_neg (nF h10)] at hR;refine sq (v.scale == 0) ?_ ?_
 ·exact zz3 trivial
 refine zz3 ?_;refine sq (v.text == []) ?_ ?_
 ·exact zz3 trivial
 refine zz3 ?_;refine sq (((v.list.length : Nat) : Int) == 0) ?_ ?_
 ·exact zz3 trivial
 refine zz3 ?_;refine sq (((v.fields.length : Nat) : Int) == 0) ?_ ?_
 ·exact zz3 trivial
 refine zz3 ?_
 try rw [← hR]
 try simp
abbrev f159 : Dat := .fn (.func 159) [] []
theorem JK3 (x : Fld) (n : Str) : PT 159 [Jh x, .str n] (.d (.int .i64 (Z3 x.name n))) := by
 refine ok159.pc ?_;have c := (JGR x.name n).call trivial;rw [J3];simp only [go_sem, ir159, simprocAttr];refine wc c trivial
def bsG (l : List Fld) (n : Str) : Nat → Nat → Nat → Nat
 | 0, i, _ => i
 | f + 1, i, j => if i < j then (if Z3 ((l[(i + j) / 2]?.map Fld.name).getD []) n < 0 then bsG l n f ((i + j) / 2 + 1) j else bsG l n f i ((i + j) / 2)) else i
theorem JSN (i j : Nat) (h : i + j ≤ 200000000000) : JLG .shr .u64 (IntKind.u64.wrap (IntKind.i64.wrap ((i : Int) + (j : Int)))) .u64 1 = some (0 ≤ (1 : Int), (((i + j) / 2 : Nat) : Int)) := by
 have e1 : IntKind.i64.wrap ((i : Int) + (j : Int)) = ((i + j : Nat) : Int) := by rw [IntKind.wrap_i64]; omega
 have e2 : IntKind.u64.wrap ((i + j : Nat) : Int) = ((i + j : Nat) : Int) := by rw [IntKind.wrap_u64]; omega
 rw [e1, e2];simp only [JLG];have e3 : ((2 : Int) ^ min (Int.toNat 1) IntKind.u64.bits) = 2 := dC;rw [e3, Int.fdiv_eq_ediv_of_nonneg _ dC];congr 2
theorem JJj {l : List Fld} {n : Str} : ∀ (f i j : Nat), i ≤ j → j ≤ l.length → bsG l n f i j ≤ l.length
 | 0, i, j, h, h2 => by rw [bsG]; omega
 | f + 1, i, j, h, h2 => by
  rw [bsG];split
  ·split
   ·exact JJj f _ _ oM h2
   ·exact JJj f _ _ oM oM
  ·omega
def bsR (l : List Fld) (n : Str) : Nat := bsG l n (l.length + 1) 0 l.length
def bsB (l : List Fld) (n : Str) : Bool := decide (bsR l n < l.length) && (Z3 ((l[bsR l n]?.map Fld.name).getD []) n == 0)
theorem JPA (l : List Fld) (n : Str) : bsR l n ≤ l.length := JJj _ _ _ (Nat.zero_le _) (Nat.le_refl _)
theorem JSO (l : List Fld) (n : Str) (hl : l.length ≤ 68719476736) : PT 158 [.list 7 (l.map Jh), .str n, f159] (.tup [.d (.int .i64 (bsR l n)), .d (.bool (bsB l n))]) := by
 have hRl := JPA l n;generalize hB : bsB l n = B;unfold bsB at hB;generalize hR : bsR l n = R at *;unfold bsR at hR;refine ok158.pc ?_;simp only [go_sem, ir158, Vc, Nat.reduceAdd, Nat.reduceEqDiff, Nat.reduceBEq, Nat.reduceLeDiff, reduceCtorEq, ↓reduceIte];refine JJ (fun m s => ∃ (i j : Nat), i ≤ j ∧ j ≤ l.length ∧ m = j - i ∧ (∃ f, j - i < f ∧ bsG l n f i j = R) ∧
  s = ⟨[(0, .d (.list 7 (l.map Jh))), (1, .d (.str n)), (2, .d f159), (8, .d (.int .i64 l.length)), (9, .d (.int .i64 i)), (10, .d (.int .i64 j))], []⟩) ?_ ?_
 ·exact ⟨_, _, Wk.refl _, 0, l.length, Nat.zero_le _, Nat.le_refl _, rfl, ⟨_, oM, hR⟩, rfl⟩
 ·rintro m s ⟨i, j, hij, hj, rfl, ⟨f, hf, hinv⟩, rfl⟩;by_cases hlt : i < j
  ·have hd : decide ((i : Int) < (j : Int)) = true := sO;obtain ⟨f, rfl⟩ : ∃ g, f = g + 1 := ⟨f - 1, oM⟩;rw [bsG, if_pos hlt] at hinv;have hbit := JSN i j oM;have hh : (i + j) / 2 < l.length := oM;have hm1 : i ≤ (i + j) / 2 := oM;have hm2 : (i + j) / 2 < j := oM;generalize (i + j) / 2 = h at *;have hx := J5 hh;have hw : IntKind.i64.wrap (h : Int) = (h : Int) := by rw [IntKind.wrap_i64]; omega
   have c := (JK3 l[h] n).call trivial;rw [J3] at c;rw [Vl hh] at hinv;simp only [Vj, Vp] at hinv;simp only [go_sem, hd, hbit, hw, hx, Vv, Vc, Nat.reduceAdd, Nat.reduceEqDiff, Nat.reduceBEq, Nat.reduceLeDiff, reduceCtorEq, ↓reduceIte];refine ⟨oM, oM, wn c ?_⟩;refine zz ?_;apply ik <;> intro h3
   ·rw [if_pos (sX h3)] at hinv;refine ⟨j - (h + 1), _, oM, Wk.less ?_, h + 1, j, oM, hj, rfl, ⟨f, oM, hinv⟩, rfl⟩;simp only [go_sem, Jj h oM, Nat.reduceAdd, Nat.reduceEqDiff, Nat.reduceBEq, Nat.reduceLeDiff, reduceCtorEq, ↓reduceIte]
   ·rw [if_neg (sX h3)] at hinv;refine ⟨h - i, _, oM, Wk.less ?_, i, h, oM, oM, rfl, ⟨f, oM, hinv⟩, rfl⟩;exact zz trivial
  ·have hd : decide ((i : Int) < (j : Int)) = false := sO;have hiR : i = R := by
    rw [← hinv];cases f with
    | zero => rw [bsG]
    | succ f => rw [bsG, if_neg hlt]
   subst hiR;refine zz74 ?_;refine Us (Z3 ((l[i]?.map Fld.name).getD []) n == 0) (fun h4 => ?_) ?_
   ·have hh : i < l.length := sX h4;have hx := J5 hh;have c := (JK3 l[i] n).call trivial;rw [J3] at c;rw [Vl hh];simp only [Vj, Vp];refine JM5 ?_;refine ⟨oM, wn c ?_⟩;exact zz trivial
   refine zz ?_;rw [← hB]
   try simp
abbrev f91 : Dat := .fn (.func 91) [] []
abbrev zVo : Av.Obj := .box [.d (.int .i64 0), .d (.int .i64 0), .d (.int .i64 0), .d (.str []), .d (.nil 6), .d (.nil 7)]
theorem JCA {t : Typ} {n : Str} (h : (tfR t n).2 = true) : (tfR t n).1 ∈ t.fields := by
 unfold tfR at h ⊢;cases e : JIM n t.fields with
 | none => rw [e] at h; cases h
 | some i =>
  have hil : i < t.fields.length := by
   obtain ⟨h, _⟩ := List.findIdx?_eq_some_iff_getElem.1 e;exact h
  simp only [Vl hil, Vp];exact Vk hil
def JBJ (ch : Typ → Val → Val) (t : Typ) (l : List Fld) : List Fld := l.map fun x => if (tfR t x.name).2 = true then .mk x.name (ch (tfR t x.name).1.type x.value) else x
def JJk (ch : Typ → Val → Val) (t : Typ) (v : Val) : Val :=
 if (t.kind == 8 && ((t.elem.length : Nat) : Int) == 1) = true then .mk v.kind v.int v.scale v.text (v.list.map (ch ((t.elem[0]?).getD ty0))) v.fields
 else if (t.kind == 10) = true then (if (tfR t v.text).2 = true then .mk v.kind v.int v.scale v.text [ch (tfR t v.text).1.type ((v.list[0]?).getD zeroV)] v.fields else v)
 else v
theorem JSP (ch : Typ → Val → Val) (t : Typ) (v : Val) (hk : t.kind = 9) (hl : v.fields.length ≤ 1000000000)
  (h2 : ∀ g ∈ t.fields, ∀ f ∈ v.fields, PT 91 [Jk g.type, JB f.value] (.d (JB (ch g.type f.value)))) :
  KT 157 [.d (Jk t), .d (JB v), .d f91] []
   (.agg [.d (.int .i64 v.kind), .d (.int .i64 v.int), .d (.int .i64 v.scale), .d (.str v.text), .d (.list 6 (v.list.map JB)), .ms 79 v.fields.length])
   [(79, .row v.fields.length 7 ((JBJ ch t v.fields).map Jh))] := by
 refine JOP.co (k := true) (Jd (by simp [UA, put, Jc, J4, JP, JW])) (by simp [JD, upd, inT, JW, JP]) ?_;rw [JN t, JA v];have e8 : (t.kind == 8) = false := by rw [hk]; rfl
 have e9 : (t.kind == 9) = true := by rw [hk]; rfl
 simp only [go_sem, JOO, e8, e9, simprocAttr];refine JJ (fun n s => ∃ k : Nat, k ≤ v.fields.length ∧ n = v.fields.length - k ∧
  s = ⟨[(2, .d f91), (3, .ref 3 0), (6, .ref 6 0), (7, .ref 7 0), (54, .d (.list 7 (v.fields.map Jh))), (55, .d (.int .i64 v.fields.length)), (56, .d (.int .i64 k))],
   [(3, bxT t), (6, zVo), (7, .box [.d (.int .i64 v.kind), .d (.int .i64 v.int), .d (.int .i64 v.scale), .d (.str v.text), .d (.list 6 (v.list.map JB)), .ms 79 k]), (79, .row k 7 ((JBJ ch t (v.fields.take k)).map Jh))]⟩) ?_ ?_
 ·refine ⟨_, _, (Wk.JIe 7 5 79 7 _ rfl rfl rfl dC).trans (Wk.less ?_), 0, Nat.zero_le _, rfl, rfl⟩;simp [put, go_sem, bxT, JBJ]
 ·rintro n s ⟨k, hk1, rfl, rfl⟩;by_cases hlt : k < v.fields.length
  ·have hx := J5 hlt;have hd := dT hlt;have hmem := Vk hlt;have hlen : (JBJ ch t (v.fields.take k)).length = k := by simp [JBJ]; omega
   have htk : JBJ ch t (v.fields.take (k + 1)) = JBJ ch t (v.fields.take k) ++ [if (tfR t v.fields[k].name).2 = true then .mk v.fields[k].name (ch (tfR t v.fields[k].name).1.type v.fields[k].value) else v.fields[k]] := by
    unfold JBJ;rw [List.take_succ_eq_append_getElem hlt, Vw];rfl
   have c98 := (JGt t v.fields[k].name).call (by simp [JU]);have hin := @JCA t v.fields[k].name;generalize tfR t v.fields[k].name = T at *;have c91 : T.2 = true → CT 91 [.d (Jk T.1.type), .d (JB v.fields[k].value)] [] (.d (JB (ch T.1.type v.fields[k].value))) [] := fun h => (h2 T.1 (hin h) v.fields[k] hmem).call trivial
   generalize ch T.1.type v.fields[k].value = Y at *;rw [JN t, UC T.1] at c98;simp only [go_sem, hx, hd, Vv, Vc, bxT, zVo, simprocAttr];refine ⟨oM, ?_⟩;refine wd c98 ?_;apply ik <;> intro h
   ·have c := c91 h;rw [JN, JA v.fields[k].value, JA Y] at c;rw [if_pos h] at htk
    try refine zz2 ?_
    refine wd c ?_;refine ⟨sP, by simp [hlen]; omega, v.fields.length - (k + 1), _, oM, Wk.less ?_, k + 1, oM, rfl, rfl⟩;rw [htk, Vw];simp only [go_sem, Jj k oM, Va, Vb, J3, Fld.name, Fld.value, simprocAttr]
   ·rw [if_neg (nF h)] at htk
    try refine zz2 ?_
    refine ⟨sP, by simp [hlen]; omega, v.fields.length - (k + 1), _, oM, Wk.less ?_, k + 1, oM, rfl, rfl⟩;rw [htk, Vw];simp only [go_sem, Jj k oM, Va, Vb, J3 v.fields[k], Nat.reduceAdd, Nat.reduceEqDiff, Nat.reduceBEq, Nat.reduceLeDiff, Int.reduceBEq, reduceCtorEq, ↓reduceIte]
  ·have hd := dF hlt;obtain rfl : k = v.fields.length := oM;simp only [go_sem, hd, List.take_length, bxT, zVo, simprocAttr]
theorem JSQ (ch : Typ → Val → Val) (t : Typ) (v : Val) (h9 : t.kind ≠ 9) (h10 : t.kind = 10 → v.list.length = 1)
  (h1 : ∀ e ∈ t.elem, ∀ x ∈ v.list, PT 91 [Jk e, JB x] (.d (JB (ch e x))))
  (h3 : ∀ g ∈ t.fields, ∀ x ∈ v.list, PT 91 [Jk g.type, JB x] (.d (JB (ch g.type x)))) :
  PT 157 [Jk t, JB v, f91] (.d (JB (JJk ch t v))) := by
 refine Ui.Ju JOP.has fun hfit => ?_
 have hvl := (YT (hfit _ (Vn _ (Vh)))).2.1;refine JOP.pc ?_;generalize hR : JJk ch t v = R;unfold JJk at hR;have h9' : (t.kind == 9) = false := sX h9;have c98 := (JGt t v.text).call (by simp [JU]);have hin := @JCA t v.text;generalize tfR t v.text = T at *;rw [JN t, UC T.1] at c98;rw [JN t, JA v, JA R];simp only [go_sem, JOO, simprocAttr];refine sq (((t.elem.length : Nat) : Int) == 1) ?_ ?_
 ·exact JM6 trivial
 refine zz2 ?_;apply ik <;> intro h8
 ·rw [if_pos h8] at hR;have he1 : t.elem.length = 1 := by
   simp only [Vi, beq_iff_eq] at h8;omega
  have he0 : 0 < t.elem.length := oM;have hx0 := JBq he0;have hem := Vk he0;rw [Vl he0, Vp] at hR;generalize t.elem[0] = e at *;subst hR
  try simp only [go_sem, bxT, simprocAttr]
  refine JJ (fun n s => ∃ k : Nat, k ≤ v.list.length ∧ n = v.list.length - k ∧
   s = ⟨[(2, .d f91), (3, .ref 3 0), (6, .ref 6 0), (7, .ref 7 0), (29, .d (.list 6 (v.list.map JB))), (30, .d (.int .i64 v.list.length)), (31, .d (.int .i64 k))],
    [(3, bxT t), (6, zVo), (7, .box [.d (.int .i64 v.kind), .d (.int .i64 v.int), .d (.int .i64 v.scale), .d (.str v.text), .ms 45 k, .d (.list 7 (v.fields.map Jh))]), (45, .row k 6 ((v.list.take k).map fun x => JB (ch e x)))]⟩) ?_ ?_
  ·refine ⟨_, _, (Wk.JIe 7 4 45 6 _ rfl rfl rfl dC).trans (Wk.less ?_), 0, Nat.zero_le _, rfl, rfl⟩;simp [put, go_sem, bxT]
  ·rintro n s ⟨k, hk1, rfl, rfl⟩;by_cases hlt : k < v.list.length
   ·have hx := Jy hlt;have hd := dT hlt;have c := (h1 e hem v.list[k] (Vk hlt)).call trivial;have htk : (v.list.take (k + 1)).map (fun x => JB (ch e x)) = (v.list.take k).map (fun x => JB (ch e x)) ++ [JB (ch e v.list[k])] := by
     rw [List.take_succ_eq_append_getElem hlt, Vw];rfl
    rw [JA (ch e v.list[k])] at c htk;generalize ch e v.list[k] = Y at *;rw [JN, JA v.list[k]] at c;simp only [go_sem, hx, hd, hx0, Vv, Int.toNat_zero, Vc, bxT, zVo, simprocAttr];refine ⟨oM, oM, JC rfl c trivial ?_⟩;refine zz2 ?_;refine ⟨sP, sO, rfl, v.list.length - (k + 1), _, oM, Wk.less ?_, k + 1, oM, rfl, rfl⟩;rw [htk];simp only [go_sem, Jj k oM, Va, Vb, simprocAttr]
   ·have hd := dF hlt;obtain rfl : k = v.list.length := oM;have hm : v.list.map (fun x => JB (ch e x)) = (v.list.map (ch e)).map JB := by rw [List.map_map]; rfl
    simp only [go_sem, hd, List.take_length, hm, bxT, zVo, simprocAttr]
    try simp only [Val.kind, Val.int, Val.scale, Val.text, Val.list, Val.fields]
 rw [if_neg (nF h8)] at hR
 try refine zz61 ?_
 apply ik <;> intro h5
 ·rw [if_pos h5] at hR;have h5' : t.kind = 10 := sX h5;have hl1 := h10 h5';have hl0 : 0 < v.list.length := oM;have hx0 := Jy hl0;have hlm := Vk hl0;rw [Vl hl0, Vp] at hR;have c91 : T.2 = true → CT 91 [.d (Jk T.1.type), .d (JB v.list[0])] [] (.d (JB (ch T.1.type v.list[0]))) [] := fun h => (h3 T.1 (hin h) v.list[0] hlm).call trivial
  generalize ch T.1.type v.list[0] = Y at *
  try refine zz2 ?_
  refine wd c98 ?_;apply ik <;> intro h
  ·have c := c91 h;rw [JN, JA v.list[0], JA Y] at c;rw [if_pos h] at hR;subst hR;refine zz88 ?_;refine ⟨oM, wn c ?_⟩;refine zz2 ?_;refine ⟨sP, ?_⟩;simp only [Val.kind, Val.int, Val.scale, Val.text, Val.list, Val.fields, Va, Vb, JA Y]
  ·rw [if_neg (nF h)] at hR;subst hR
   try simp only [go_sem, simprocAttr]
 ·rw [if_neg (nF h5)] at hR;subst hR
  try simp only [go_sem, simprocAttr]
def JLr (fs : List Fld) (g : TFl) : List Fld :=
 if (g.need != 3 || ((g.dflt.length : Nat) : Int) != 1) = true then fs
 else if bsB fs g.name = true then fs
 else fs.take (bsR fs g.name) ++ .mk g.name ((g.dflt[0]?).getD zeroV) :: fs.drop (bsR fs g.name)
def JIR : List Fld → List TFl → List Fld
 | fs, [] => fs
 | fs, g :: r => JIR (JLr fs g) r
def cmS (ch : Typ → Val → Val) (t : Typ) (v : Val) : Val :=
 if (v.kind != t.kind || !Zi v) = true then v else if t.kind = 9 then .mk v.kind v.int v.scale v.text v.list (JIR (JBJ ch t v.fields) t.fields) else JJk ch t v
theorem JPB (fs : List Fld) (g : TFl) : (JLr fs g).length ≤ fs.length + 1 := by
 unfold JLr;split
 ·omega
 split
 ·omega
 ·simp only [Vg, Vf, List.length_take, List.length_drop];omega
theorem call158 (i m : Nat) (fs : List Fld) (n : Str) (hl : fs.length ≤ 1000000000) :
  CT (.fn 158) [.ms i m, .d (.str n), .d f159] [(i, some (.row m 7 (fs.map Jh)))] (.tup [.d (.int .i64 (bsR fs n)), .d (.bool (bsB fs n))]) [] := by
 have h := JSO fs n oM;refine Ui.JSy (ds := [.list 7 (fs.map Jh), .str n, f159]) (p := m = m ∧ True ∧ True ∧ True) (u := [(i, .frz m 7 (fs.map Jh))]) ?_ rfl rfl (fun H hH => ?_) ⟨rfl, trivial, trivial, trivial⟩
 ·simp only [Va, Vb, Dat.canon, Ji, XY];exact h
 ·have hi : H i = some (.row m 7 (fs.map Jh)) := hH _ (Vh);simp [Jq, datum, Uj, hi]
theorem JPC (ch : Typ → Val → Val) (t : Typ) (v : Val) (hk : t.kind = 9) (hl : v.fields.length ≤ 1000000000)
  (h2 : ∀ g ∈ t.fields, ∀ f ∈ v.fields, PT 91 [Jk g.type, JB f.value] (.d (JB (ch g.type f.value)))) (i : Nat) :
  CT (.fn 157) [.d (Jk t), .d (JB v), .d f91] [(i, none)]
   (.agg [.d (.int .i64 v.kind), .d (.int .i64 v.int), .d (.int .i64 v.scale), .d (.str v.text), .d (.list 6 (v.list.map JB)), .ms i v.fields.length])
   [(i, .row v.fields.length 7 ((JBJ ch t v.fields).map Jh))] := by
 have hd : ∀ j, (JD (Av.get []) [(79, Obj.row v.fields.length 7 ((JBJ ch t v.fields).map Jh))] j).isSome = true → j = 79 := by
  intro j h;simp only [JD, upd] at h;split at h
  ·rename_i e; exact e
  ·cases h
 have := (JSP ch t v hk hl h2).call (fun _ => i) (by intro j h; cases h) ?_ ?_ (by intro j o h; cases h) [79] ?_ ?_ ?_
 ·simp only [Av.ren, Obj.ren, J1, Va, Vb, List.nil_append, simprocAttr] at this ⊢;exact this
 ·intro a b ha hb _;rw [hd a ha, hd b hb]
 ·intro c hc;simp only [VA, List.not_mem_nil, or_false] at hc;rcases hc with rfl | rfl | rfl <;> trivial
 ·intro e he;simp only [VA, List.not_mem_nil, or_false] at he;subst he;exact .inr sP
 ·exact Jd (by simp [UA, put, Jc, J4, JP, JW])
 ·simp [JD, upd, inT, JW, JP]
theorem step91 (ch : Typ → Val → Val) (t : Typ) (v : Val) (hl : v.fields.length ≤ 400000000) (ht : t.fields.length ≤ 400000000)
  (h1 : ∀ e ∈ t.elem, ∀ x ∈ v.list, PT 91 [Jk e, JB x] (.d (JB (ch e x))))
  (h2 : ∀ g ∈ t.fields, ∀ f ∈ v.fields, PT 91 [Jk g.type, JB f.value] (.d (JB (ch g.type f.value))))
  (h3 : ∀ g ∈ t.fields, ∀ x ∈ v.list, PT 91 [Jk g.type, JB x] (.d (JB (ch g.type x)))) :
  PT 91 [Jk t, JB v] (.d (JB (cmS ch t v))) := by
 refine ok91.pc ?_;have c93 := (JO9 v).call trivial;have c157 := fun h => JPC ch t v h oM h2 1
 have c157' := fun h9 h10 => (JSQ ch t v h9 h10 h1 h3).call trivial
 generalize hR : cmS ch t v = R;unfold cmS at hR;have hf10 : v.kind = 10 → Zi v = true → v.list.length = 1 := by
  intro h hf;unfold Zi at hf;rw [h] at hf;simp only [Int.reduceBEq, Vu, ↓reduceIte, Vi, Bool.not_eq_true', bne_eq_false_iff_eq] at hf;have := hf.1;omega
 generalize JJk ch t v = I at *;rw [JN t, JA v] at c157';rw [JA I] at c157';rw [JN t, JA v] at c157;rw [JA v] at c93;rw [JN t, JA v, JA R];simp only [go_sem, ir91, simprocAttr];refine sq (!Zi v) ?_ ?_
 ·refine zz2 ?_;refine wd c93 trivial
 refine zz2 ?_;apply ik <;> intro h
 ·rw [if_pos h] at hR;subst hR
  try simp only [go_sem, simprocAttr]
 rw [if_neg (nF h)] at hR;have hkk : v.kind = t.kind ∧ Zi v = true := sX h
 try refine zz2 ?_
 by_cases h9 : t.kind = 9
 ·rw [if_pos h9] at hR;refine wn (c157 h9) ?_;have h9' : (t.kind != 9) = false := sX h9;refine zz61 ?_;refine JJ (fun n s => ∃ (k m : Nat) (fs : List Fld), k ≤ t.fields.length ∧ n = t.fields.length - k ∧ fs.length ≤ v.fields.length + k ∧ JIR (JBJ ch t v.fields) t.fields = JIR fs (t.fields.drop k) ∧
   s = ⟨[(4, .ref 4 0), (5, .ref 5 0), (29, .d (.list 11 (t.fields.map UW))), (30, .d (.int .i64 t.fields.length)), (31, .d (.int .i64 k))],
    [(4, zVo), (5, .box [.d (.int .i64 v.kind), .d (.int .i64 v.int), .d (.int .i64 v.scale), .d (.str v.text), .d (.list 6 (v.list.map JB)), .ms 1 m]), (1, .row m 7 (fs.map Jh))]⟩) ?_ ?_
  ·refine ⟨_, _, Wk.less ?_, 0, v.fields.length, JBJ ch t v.fields, Nat.zero_le _, rfl, by simp [JBJ], rfl, rfl⟩;simp [put, go_sem, zVo]
  ·rintro n s ⟨k, m, fs, hk1, rfl, hfl, hinv, rfl⟩;by_cases hlt : k < t.fields.length
   ·have hx := Yh hlt;have hd := dT hlt;rw [Vq hlt, JIR] at hinv;have hdl := JPB fs t.fields[k];generalize hg : t.fields[k] = g at *;simp only [go_sem, hx, hd, Vv, Vc, zVo, simprocAttr];refine ⟨oM, ?_⟩;refine sq (((g.dflt.length : Nat) : Int) != 1) ?_ ?_
    ·exact JM6 trivial
    refine zz2 ?_;have hback : ∀ (m' : Nat) (fs' : List Fld), fs' = JLr fs g → True := fun _ _ _ => trivial
    unfold JLr at hinv hdl;apply ik <;> intro hc
    ·rw [if_pos hc] at hinv
     try refine zz2 ?_
     refine ⟨t.fields.length - (k + 1), _, oM, Wk.less ?_, k + 1, m, fs, oM, rfl, oM, hinv, rfl⟩;exact zz62 trivial
    rw [if_neg (nF hc)] at hinv hdl
    try refine zz2 ?_
    refine wn (call158 1 m fs g.name oM) ?_;have hbl := JPA fs g.name;generalize bsR fs g.name = at_ at *;generalize bsB fs g.name = bb at *;refine zz2 ?_;apply ik <;> intro hb
    ·have hb' : ¬ bb = true := sX hb;rw [if_neg hb'] at hinv hdl;have hd1 : g.dflt.length = 1 := by
      simp only [Bool.or_eq_false_iff, bne_eq_false_iff_eq] at hc;have := hc.2;omega
     have hd0 : 0 < g.dflt.length := oM;have hx0 := Jy hd0;rw [Vl hd0, Vp] at hinv hdl;generalize g.dflt[0] = y at *;have c156 := JO0 1 m at_ (fs.map Jh) (.agg [.str g.name, .int .i64 y.kind, .int .i64 y.int, .int .i64 y.scale, .str y.text, .list 6 (y.list.map JB), .list 7 (y.fields.map Jh)]) (sX hbl) sO rfl;have hse : (fs.map Jh).take at_ ++ (.agg [.str g.name, .int .i64 y.kind, .int .i64 y.int, .int .i64 y.scale, .str y.text, .list 6 (y.list.map JB), .list 7 (y.fields.map Jh)]) :: (fs.map Jh).drop at_ = List.map Jh (fs.take at_ ++ .mk g.name y :: fs.drop at_) := by
      rw [Vw, Va, List.map_take, List.map_drop, J3 (.mk g.name y)];rfl
     rw [hse] at c156;generalize fs.take at_ ++ .mk g.name y :: fs.drop at_ = fs' at *
     try refine zz88 ?_
     refine ⟨oM, sP, JC rfl c156 ⟨rfl, trivial⟩ ?_⟩;refine zz2 ?_;refine ⟨dC, t.fields.length - (k + 1), _, oM, Wk.less ?_, k + 1, m + 1, fs', oM, rfl, oM, hinv, rfl⟩;exact zz62 trivial
    ·have hb' : bb = true := sX hb;rw [if_pos hb'] at hinv
     try refine zz2 ?_
     refine ⟨t.fields.length - (k + 1), _, oM, Wk.less ?_, k + 1, m, fs, oM, rfl, oM, hinv, rfl⟩;exact zz62 trivial
   ·have hd := dF hlt;rw [List.drop_eq_nil_of_le oM, JIR] at hinv;rw [hinv] at hR;subst hR;simp only [go_sem, hd, zVo, simprocAttr]
    first | rfl | simp only [Val.kind, Val.int, Val.scale, Val.text, Val.list, Val.fields]
 ·rw [if_neg h9] at hR;have h9' : (t.kind != 9) = true := sX h9;refine wn (c157' h9 (fun h => hf10 (hkk.1.trans h) hkk.2)) ?_;refine zz61 ?_;subst hR
  try simp only [go_sem, simprocAttr]
mutual
def szT : Typ → Nat
 | .mk _ _ _ _ _ e f => 1 + JIS e + JFP f
def JIS : List Typ → Nat
 | [] => 0
 | v :: r => szT v + JIS r
def JFP : List TFl → Nat
 | [] => 0
 | .mk _ _ _ t _ :: r => szT t + JFP r
end
theorem JEx (t : Typ) : szT t = 1 + JIS t.elem + JFP t.fields := by cases t; rfl
theorem JEy : ∀ {l : List Typ}, ∀ x ∈ l, szT x ≤ JIS l
 | v :: r, x, hx => by
  simp only [JIS];rcases VA.1 hx with rfl | hx
  ·omega
  ·have := JEy x hx; omega
theorem JAI : ∀ {l : List TFl}, ∀ x ∈ l, szT x.type ≤ JFP l
 | .mk a b c t d :: r, x, hx => by
  simp only [JFP];rcases VA.1 hx with rfl | hx
  ·show szT t ≤ _; omega
  ·have := JAI x hx; omega
theorem JIT : ∀ l : List TFl, l.length ≤ JFP l
 | [] => Nat.zero_le _
 | .mk a b c t d :: r => by
  have := JIT r;have h : 1 ≤ szT t := by rw [JEx]; omega
  simp only [JFP, Vf];omega
def cmF : Nat → Typ → Val → Val
 | 0, _, v => v
 | k + 1, t, v => cmS (cmF k) t v
theorem JGu : ∀ (k : Nat) (t : Typ) (v : Val), szT t ≤ k → k ≤ 400000000 → szV v ≤ 400000000 → PT 91 [Jk t, JB v] (.d (JB (cmF k t v)))
 | 0, t, v, h, _, _ => by rw [JEx] at h; omega
 | k + 1, t, v, h, hk, hv => by
  have e := JEx t;have ev := JBB v;have f1 := JIT t.fields;have f2 := JBu v.fields;refine step91 (cmF k) t v oM oM (fun e he x hx => ?_) (fun g hg f hf => ?_) (fun g hg x hx => ?_)
  ·have a := JEy e he;have b := ZG hx;exact JGu k _ _ oM oM oM
  ·have a := JAI g hg;have b := JBv hf;exact JGu k _ _ oM oM oM
  ·have a := JAI g hg;have b := ZG hx;exact JGu k _ _ oM oM oM
end Go.Proofs
namespace Go.Proofs
open Go Av
open Av.Y
def b47_0 : Ic := q (R (om 34 0<|om 35 3<|cl 36 92 [t 34,t 35,i 1]<|N) [0,3,5,6,18,34,35,36])<|.ret
def b47_1 : Ic := q (R (om 41 0<|om 42 3<|cl 43 92 [t 41,t 42,i 8]<|N) [0,3,5,6,37,41,42,43])<|.ret
def b47_2 : Ic := q (R (oL 38 6 6<|cl 39 93 [t 38]<|og 40 39<|om 37 40<|N) [18,38,39,40])<|D (I 37 b47_1 S) [37]
def b47_3 : Ic := q (R (of 19 5 0<|ol 20 19<|oi 21 .lss 20 1<|om 22 21<|.sc 22 false (of 23 5 0<|ol 24 23<|oi 25 .gtr 24 10<|N) (t 25) 26 (om 27 26<|.sc 27 false (of 28 6 0<|ol 29 28<|of 30 5 0<|ol 31 30<|ot 32 .neq 29 31<|N) (t 32) 33 (om 18 33<|N))) [13,19,20,21,22,23,24,25,26,27,28,29,30,31,32,33])<|I 18 b47_0 b47_2
def b47_4 : Ic := q (R (oi 48 .eql 45 6<|om 46 48<|N) [48])<|I 46 S (R (oi 49 .eql 45 7<|om 46 49<|N) [49])
def b47_5 : Ic := R (om 50 0<|oL 51 7 5<|om 52 3<|of 53 6 1<|ol 54 53<|cl 55 94 [t 50,t 51,t 52,t 54]<|N) [0,3,5,6,45,46,50,51,52,53,54,55]
def b47_6 : Ic := R (om 63 0<|om 64 3<|cl 65 92 [t 63,t 64,i 3]<|N) [0,3,5,6,62,63,64,65]
def b47_7 : Ic := R (om 66 0<|oL 67 7 5<|om 68 3<|of 69 6 1<|ol 70 69<|cl 71 94 [t 66,t 67,t 68,t 70]<|N) [0,3,5,6,62,66,67,68,69,70,71]
def b47_8 : Ic := q (R (of 58 6 2<|ol 59 58<|of 60 5 3<|ol 61 60<|ot 62 .neq 59 61<|N) [45,56,58,59,60,61])<|I 62 b47_6 b47_7
def b47_9 : Ic := R (om 90 0<|om 91 3<|cl 92 92 [t 90,t 91,i 4]<|N) [0,3,89,90,91,92]
def JPD : Ic := q (R (of 84 5 4<|ol 85 84<|of 86 6 3<|ol 87 86<|cl 88 95 [t 85,t 87]<|og 89 88<|N) [5,6,83,84,85,86,87,88])<|D (I 89 b47_9 S) [0,3,89]
def JPE : Ic := R (om 93 0<|oL 94 7 5<|om 95 3<|of 96 6 3<|ol 97 96<|oj 98 97<|cl 99 94 [t 93,t 94,t 95,t 98]<|N) [0,3,5,6,83,93,94,95,96,97,98,99]
def JPF : Ic := q (R (of 75 5 0<|ol 76 75<|oi 77 .eql 76 4<|om 78 77<|.sc 78 true (of 79 5 4<|ol 80 79<|oh 81 80<|oi 82 .gtr 81 0<|N) (t 82) 83 N) [45,72,75,76,77,78,79,80,81,82])<|I 83 JPD JPE
def JPG : Ic := R (om 127 0<|of 128 5 5<|ol 129 128<|oo 130 (.ixa true 7 (t 129) (i 0))<|oL 131 7 130<|oL 132 6 9<|om 133 10<|cl 134 47 [t 127,t 131,t 132,t 133]<|N) [9,10,126,127,128,129,130,131,132,133,134]
def JPH : Ic := R (om 135 0<|om 136 10<|cl 137 92 [t 135,t 136,i 1]<|N) [9,10,126,135,136,137]
def JPI : Ic := q (R (om 102 0<|oL 103 7 5<|om 104 3<|of 105 6 4<|ol 106 105<|oh 107 106<|cl 108 94 [t 102,t 103,t 104,t 107]<|N) [45,100,102,103,104,105,106,107,108])<|q (R (of 109 6 4<|ol 110 109<|oh 111 110<|oz 112 0<|N) [6,109])<|D (.block 2<|.loop (q (.reg (ot 113 .lss 112 111<|N))<|q (D (I 113 S (E 2)) [113])<|q (D (.block 3<|q (R (om 114 112<|oa true 115 6 110 112<|oL 116 6 115<|oN 9 v6<|om 8 114<|oS 6 9 116<|N) [114,115,116])<|q (R (om 117 3<|ob 118 .cat (t 117) (.k (.str [91]))<|om 119 8<|cl 120 96 [t 119]<|ot 121 .cat 118 120<|ob 122 .cat (t 121) (.k (.str [93]))<|om 10 122<|N) [8,117,118,119,120,121,122])<|q (R (of 123 5 5<|ol 124 123<|oh 125 124<|oi 126 .eql 125 1<|N) [123,124,125])<|I 126 JPG JPH) [114,115,116,9,8,117,118,119,120,121,122,10,123,124,125,126,127,128,129,130,131,132,133,134,135,136,137])<|R (oi 138 .add 112 1<|om 112 138<|N) [138])) [0,3,5,110,111,112,113,114,115,116,9,8,117,118,119,120,121,122,10,123,124,125,126,127,128,129,130,131,132,133,134,135,136,137,138]
def JPJ : Ic := R (om 141 0<|oL 142 7 5<|oL 143 6 6<|om 144 3<|cl 145 97 [t 141,t 142,t 143,t 144]<|N) [0,3,5,6,45,139,141,142,143,144,145]
def JPK : Ic := R (om 156 0<|of 157 11 3<|oL 158 7 157<|of 159 6 4<|ol 160 159<|oo 161 (.ixa true 6 (t 160) (i 0))<|oL 162 6 161<|om 163 3<|ob 164 .cat (t 163) (.k (.str [63]))<|of 165 6 3<|ol 166 165<|ot 167 .cat 164 166<|cl 168 47 [t 156,t 158,t 162,t 167]<|N) [0,3,6,11,155,156,157,158,159,160,161,162,163,164,165,166,167,168]
def JPL : Ic := R (om 169 0<|om 170 3<|cl 171 92 [t 169,t 170,i 7]<|N) [0,3,6,11,155,169,170,171]
def JPM : Ic := q (R (oL 149 7 5<|of 150 6 3<|ol 151 150<|cl 152 98 [t 149,t 151]<|om 148 152<|oe 153 148 0<|oe 154 148 1<|oN 11 vG<|oS 11 11 153<|om 12 154<|N) [5,146,149,150,151,152,148,153,154])<|q (R (om 155 12<|N) [12])<|I 155 JPK JPL
def JPN : Ic := q (R (oi 147 .eql 45 10<|om 146 147<|N) [45,139,147])<|D (I 146 JPM S) [0,3,5,6,146]
def JPO : Ic := q (R (oi 140 .eql 45 9<|om 139 140<|N) [100,140])<|I 139 JPJ JPN
def JPP : Ic := q (R (oi 101 .eql 45 8<|om 100 101<|N) [72,101])<|I 100 JPI JPO
def JPQ : Ic := q (q (R (oi 73 .eql 45 4<|om 72 73<|N) [56,73])<|I 72 S (R (oi 74 .eql 45 5<|om 72 74<|N) [74]))<|I 72 JPF JPP
def JPR : Ic := q (R (ox 5 1<|ox 6 2<|N) [1,2])<|q (D (.block 0<|q (R (om 14 0<|oc 15 14<|of 16 15 1<|ol 17 16<|om 13 17<|N) [14,15,16,17])<|D (I 13 .ret b47_3) [13]) [14,15,16,17,13,19,20,21,22,23,24,25,26,27,28,29,30,31,32,33,18,34,35,36,38,39,40,37,41,42,43])<|q (R (of 44 5 0<|ol 45 44<|N) [44])<|D (.block 1<|q (q (R (oi 47 .eql 45 2<|om 46 47<|N) [47])<|I 46 S b47_4)<|I 46 b47_5 (q (R (oi 57 .eql 45 3<|om 56 57<|N) [46,57])<|I 56 b47_8 JPQ)) [0,3,5,6,45,47,46,48,49,50,51,52,53,54,55,57,56,58,59,60,61,62,63,64,65,66,67,68,69,70,71,73,72,74,75,76,77,78,79,80,81,82,83,84,85,86,87,88,89,90,91,92,93,94,95,96,97,98,99,101,100,102,103,104,105,106,107,108,109,110,111,112,113,114,115,116,9,8,117,118,119,120,121,122,10,123,124,125,126,127,128,129,130,131,132,133,134,135,136,137,138,140,139,141,142,143,144,145,147,146,149,150,151,152,148,153,154,11,12,155,156,157,158,159,160,161,162,163,164,165,166,167,168,169,170,171]
theorem ok47c : FT 47 172 JPR [] := .o Tryz.func47
end Go.Proofs
namespace Go.Proofs
open Go Av
variable {b : Bool}
abbrev TF (b : Bool) : List (Nat × Av.Obj) := [(1000, .box [.clo (.func 46) [] [.ref 1001 0], .d (.bool (!b))]), (1001, .box [.d (.bool b)])]
theorem JAJ (b c : Bool) : closed (JD (Av.get (TF b)) (TF c)) := by
 refine Jd ?_;simp [TF, UA, put, Jc, J4, JP, JW, Av.get]
theorem JPS (b : Bool) : closed (Av.get (TF b)) := by
 refine UZ ?_;simp [TF, Jc, J4, JP, JW, Av.get]
theorem JJl {i : Nat} (h : (Av.get (TF b) i).isSome = true) : i = 1000 ∨ i = 1001 := by
 simp only [TF, Av.get] at h
 repeat' split at h
 all_goals first | (cases h; done) | skip
 all_goals rename_i e
 all_goals first | omega | skip
theorem TF_put (b c : Bool) : UA (TF b) (TF c) = TF c := by simp [TF, UA, put]
theorem JSR (b c : Bool) : JD (Av.get (TF b)) (TF c) = Av.get (TF c) := by rw [← Jg, TF_put]
abbrev JCt (f : Nat) (ds : List Dat) (b c : Bool) : Prop := KT f (.ref 1000 0 :: ds.map .d) (TF b) (.tup []) (TF c)
theorem JCt.at {f : Nat} {ds : List Dat} {c : Bool} (h : JCt f ds b c) (i j : Nat) (hij : i ≠ j) :
  CT f (.ref i 0 :: ds.map .d) [(i, some (.box [.clo (.func 46) [] [.ref j 0], .d (.bool (!b))])), (j, some (.box [.d (.bool b)]))] (.tup []) [(i, .box [.clo (.func 46) [] [.ref j 0], .d (.bool (!c))]), (j, .box [.d (.bool c)])] := by
 have := Con.call h (fun m => if m = 1000 then i else j) (fun m hm => by rcases JJl hm with rfl | rfl <;> omega)
  (fun a b' ha hb e => by
   rw [JSR] at ha hb;rcases JJl ha with rfl | rfl <;> rcases JJl hb with rfl | rfl
   ·rfl
   ·simp at e; exact absurd e hij
   ·simp at e; exact absurd e.symm hij
   ·rfl)
  (by
   intro c hc;rcases VA.1 hc with rfl | hc
   ·simp [inT, TF, Av.get, JW]
   ·obtain ⟨x, _, rfl⟩ := VC.1 hc; trivial) (JPS b) [] (by simp [TF, Av.get]) (JAJ b c) trivial
 have e : (ds.map Av.d).map (Av.ren fun m => if m = 1000 then i else j) = ds.map Av.d := by
  rw [List.map_map]; exact List.map_congr_left fun x _ => by simp [Av.ren]
 simp only [TF, Va, Vb, Obj.ren, Av.ren, J1, List.append_nil, e, simprocAttr] at this;exact this
theorem JCt.to {f : Nat} {ds : List Dat} {c : Bool} (h : JCt f ds b c) : CT f (.ref 1000 0 :: ds.map .d) [(1000, some (.box [.clo (.func 46) [] [.ref 1001 0], .d (.bool (!b))])), (1001, some (.box [.d (.bool b)]))] (.tup []) (TF c) := h.at 1000 1001 dC
theorem con46 (p : Str) (n : Int) (b : Bool) : KT 46 [.d (.agg [.str p, .int .i64 n]), .ref 1001 0] [(1001, .box [.d (.bool b)])] (.d (.bool false)) [(1001, .box [.d (.bool false)])] := by
 refine ok46.co (k := false) (Jd (by simp [UA, put, Jc, J4, JP, JW])) trivial ?_;simp only [go_sem, ir46, simprocAttr]
theorem call46 (p : Str) (n : Int) (b : Bool) : CT (.fn 46) [.d (.agg [.str p, .int .i64 n]), .ref 1001 0] [(1001, some (.box [.d (.bool b)]))] (.d (.bool false)) [(1001, .box [.d (.bool false)])] := by
 have hd : ∀ j, (Av.get [(1001, Obj.box [Av.d (.bool b)])] j).isSome = true → j = 1001 := by
  intro j h;simp only [Av.get] at h;split at h
  ·rename_i e; exact e.symm
  ·cases h
 have := (con46 p n b).call (fun m => m) (fun m hm => by rw [hd m hm]; omega) (fun a b' ha hb e => e) ?_ ?_ [] ?_ ?_ ?_
 ·simp only [Va, Vb, Obj.ren, Av.ren, J1, List.append_nil, simprocAttr] at this;exact this
 ·intro c hc;simp only [VA, List.not_mem_nil, or_false] at hc;rcases hc with rfl | rfl
  ·trivial
  ·simp [inT, Av.get, JW]
 ·exact UZ (by simp [Jc, J4, JP, JW])
 ·intro e he;simp only [VA, List.not_mem_nil, or_false] at he;subst he;exact .inl (by simp [Av.get])
 ·exact Jd (by simp [UA, put, Jc, J4, JP, JW])
 ·trivial
theorem JIU (p : Str) (n : Int) (b : Bool) : JCt 92 [.str p, .int .i64 n] b false := by
 refine ok92.co (k := false) (JAJ b false) trivial ?_;have c := call46 p n b;cases b with
 | true =>
  refine zz89 ?_;refine wn c ?_;exact zz90 trivial
 | false =>
  exact zz89 trivial
def inB (t : Typ) (n : Int) : Bool := !(decide (n < t.min) || decide (n > t.max))
theorem con94 (t : Typ) (p : Str) (n : Int) (b : Bool) : JCt 94 [Jk t, .str p, .int .i64 n] b (b && inB t n) := by
 refine ok94.co (k := false) (JAJ b _) trivial ?_;have c := (JIU p 2 b).to;generalize hR : (b && inB t n) = R;unfold inB at hR;rw [JN t];simp only [go_sem, ir94, TF, Va, Vb, simprocAttr];refine sq (decide (n > t.max)) ?_ ?_
 ·exact zz2 trivial
 refine zz2 ?_;apply ik <;> intro h
 ·rw [h, Vr, Bool.and_false] at hR;subst hR
  try refine zz2 ?_
  refine wn c ?_;exact zz90 trivial
 ·rw [h, Vs, Bool.and_true] at hR;subst hR
  try simp only [go_sem, TF, simprocAttr]
theorem JSS (l : List Str) (s : Str) (hl : l.length ≤ 68719476736) : ∃ n : Int, (n ≥ 0 ↔ s ∈ l) ∧ PT 161 [.list 1 (l.map .str), .str s] (.d (.int .i64 n)) := by
 refine ⟨match l.findIdx? (fun x => s == x) with | some k => (k : Int) | none => -1, ?_, ?_⟩
 ·cases e : l.findIdx? (fun x => s == x) with
  | none =>
   rw [List.findIdx?_eq_none_iff] at e;refine ⟨fun h => absurd h sP, fun h => ?_⟩;have := e s h;simp at this
  | some k =>
   obtain ⟨h1, h2, _⟩ := List.findIdx?_eq_some_iff_getElem.1 e;refine ⟨fun _ => ?_, fun _ => by simp⟩;have : s = l[k] := sX h2;rw [this];exact Vk h1
 generalize hR : (match l.findIdx? (fun x => s == x) with | some k => (k : Int) | none => -1) = R;refine ok161.pc ?_;simp only [go_sem, ir161, Vc, Nat.reduceAdd, Nat.reduceEqDiff, Nat.reduceBEq, Nat.reduceLeDiff, Int.reduceBEq, reduceCtorEq, ↓reduceIte];refine JJ (fun n z => ∃ k : Nat, k ≤ l.length ∧ n = l.length - k ∧ (∀ (j : Nat) (h1 : j < l.length), j < k → (s == l[j]) = false) ∧
  z = ⟨[(0, .d (.list 1 (l.map .str))), (1, .d (.str s)), (7, .d (.int .i64 l.length)), (8, .d (.int .i64 k))], []⟩) ?_ ?_
 ·exact ⟨_, _, Wk.refl _, 0, Nat.zero_le _, rfl, sP, rfl⟩
 ·rintro n z ⟨k, hk, rfl, hinv, rfl⟩;by_cases hlt : k < l.length
  ·have hx : nth (l.map Dat.str) k = .str l[k] := by rw [U2 (sX hlt), List.getElem_map]
   have hd := dT hlt;simp only [go_sem, hx, hd, Vv, Vc, Nat.reduceAdd, Nat.reduceEqDiff, Nat.reduceBEq, Nat.reduceLeDiff, Int.reduceBEq, reduceCtorEq, ↓reduceIte];refine ⟨oM, dC, ?_⟩;apply ik <;> intro hf
   ·have e : l.findIdx? (fun x => s == x) = some k := by
     rw [List.findIdx?_eq_some_iff_getElem];exact ⟨hlt, hf, fun j hj => by rw [hinv j oM hj]; decide⟩
    rw [e] at hR;rw [← hR]
   ·refine ⟨l.length - (k + 1), _, oM, Wk.less ?_, k + 1, oM, rfl, ?_, rfl⟩
    ·simp only [go_sem, Jj k oM, Nat.reduceAdd, Nat.reduceEqDiff, Nat.reduceBEq, Nat.reduceLeDiff, Int.reduceBEq, reduceCtorEq, ↓reduceIte]
    ·intro j h1 hj;by_cases e : j = k
     ·subst e; exact hf
     ·exact hinv j h1 oM
  ·have hd := dF hlt;simp only [go_sem, hd, Nat.reduceAdd, Nat.reduceEqDiff, Nat.reduceBEq, Nat.reduceLeDiff, Int.reduceBEq, reduceCtorEq, ↓reduceIte];have e : l.findIdx? (fun x => s == x) = none := by
    rw [List.findIdx?_eq_none_iff];intro x hx;obtain ⟨j, hj, rfl⟩ := List.getElem_of_mem hx;exact hinv j hj oM
   rw [e] at hR;rw [← hR]
theorem JPT (l : List Str) (s : Str) (hl : l.length ≤ 68719476736) : PT 95 [.list 1 (l.map .str), .str s] (.d (.bool (decide (s ∈ l)))) := by
 refine ok95.pc ?_;obtain ⟨n, hn, hc⟩ := JSS l s hl;have c := hc.call trivial;simp only [go_sem, ir95, simprocAttr];refine wn c ?_;simp only [go_sem, hn, simprocAttr]
def JGv (p n : Str) : Str := if p = [] then n else (p ++ [46]) ++ n
theorem JPU (p n : Str) : (JGv p n).length ≤ p.length + n.length + 1 := by
 unfold JGv;split
 ·omega
 ·simp; omega
theorem JK4 (p n : Str) (h : p.length + n.length + 1 ≤ 68719476736) : PT 163 [.str p, .str n] (.d (.str (JGv p n))) := by
 refine ok163.pc ?_;simp only [go_sem, ir163, simprocAttr];apply ik <;> intro hp
 ·have : p = [] := sX hp;subst this;rfl
 ·have hp' : ¬ p = [] := sX hp;rw [JGv, if_neg hp']
  try refine zz2 ?_
  exact ⟨sO, sO⟩
end Go.Proofs
namespace Go.Proofs
open Go Av
def sftB (f : Nat) (d : Int) (c : UInt8) : UInt8 := if f ≤ c.toNat ∧ c.toNat - f < 26 then UInt8.ofNat ((c.toNat : Int) + d).toNat else c
def Ug (s : Str) (f : Nat) (d : Int) : Str := s.map (sftB f d)
def JLs : Prop := (∀ s : Str, CT 241 [.d (.str s), .d (.int .u8 65), .d (.int .i64 32)] [] (.d (.str (Ug s 65 32))) []) ∧
 ∀ s : Str, CT 241 [.d (.str s), .d (.int .u8 97), .d (.int .i64 (-32))] [] (.d (.str (Ug s 97 (-32)))) []
theorem JST (hs : JLs) (s : Str) : PT 189 [.str s] (.d (.str (Ug s 65 32))) := by
 refine ok189.pc ?_;simp only [go_sem, ir189, simprocAttr];refine wc (hs.1 s) trivial
theorem JSU (hs : JLs) (s : Str) : PT 190 [.str s] (.d (.str (Ug s 97 (-32)))) := by
 refine ok190.pc ?_;simp only [go_sem, ir190, simprocAttr];refine wc (hs.2 s) trivial
def JEz (w : Val) : Prop := w.list = [] ∧ w.fields = []
theorem JF0 (wh : Bool) (n : Int × Int) (er : Int) : JEz (ZZ wh n er) ∧ (ZZ wh n er).text = [] := by
 unfold ZZ;split
 ·exact ⟨⟨rfl, rfl⟩, rfl⟩
 split <;> exact ⟨⟨rfl, rfl⟩, rfl⟩
def JPV (v : Val) (x : Int) : Val × Int :=
 if (v.kind == 4) || (v.kind == 5) then (.mk 2 ((v.text.length : Nat) : Int) 0 [] [] [], x) else if v.kind == 8 then (.mk 2 ((v.list.length : Nat) : Int) 0 [] [] [], x) else (zeroV, UI x 18)
theorem JLt (op : Int) (v env : Val) (x : Int) (hx : x ≠ 0) : JT 133 [.int .i64 op, JB v] env x (.d (JB zeroV)) x := by
 refine JEd.co (k := false) (JI _ _ _) trivial ?_;have hb : (x != 0) = true := by simp [hx]
 generalize hz : zeroV = z;rw [JA v, JA z];refine JI1 ?_;subst hz;exact rfl
def JPW (v : Val) (x : Int) : Val × Int := if !isN v then (zeroV, UI x 18) else (ZZ (v.kind == 2) (JH2 (ofN v)).1 (JH2 (ofN v)).2, JEa (JH2 (ofN v)).2 x)
theorem un_16 (v env : Val) : JT 133 [.int .i64 16, JB v] env 0 (.d (JB (JPW v 0).1)) (JPW v 0).2 := by
 refine JEd.co (k := false) (JI _ _ _) trivial ?_;have hb : ((0 : Int) != 0) = false := rfl;have c18 := (J0 env 0 18).to trivial;have c176 := (Yq v).call trivial;have c177 := (Xy v).call trivial;have c186 := (JRj (ofN v)).call (by simp [JU]);have cN := fun (wh : Bool) (n : Int × Int) (er : Int) => (JDY wh n er env 0).to trivial
 generalize hT : JPW v 0 = T;unfold JPW at hT;rw [JA v] at c176 c177;simp only [Jn] at c177 c186 cN;rw [JA v];refine JI1 ?_;refine wn c176 ?_;simp only [go_sem, mC, hb, Va, Vb, Int.reduceBEq, simprocAttr];apply ik <;> intro h0
 ·rw [if_pos h0] at hT;rw [← hT];rw [JA];generalize zeroV = z at *;refine wn c18 ?_;rw [JA];refine zz1 ?_;exact zf
 rw [if_neg (nF h0)] at hT;rw [← hT];generalize JH2 (ofN v) = N at *;have c181 := cN (v.kind == 2) N.1 N.2;rw [JA (ZZ _ _ _)];generalize ZZ (v.kind == 2) N.1 N.2 = z at *
 try refine zz1 ?_
 refine wn c177 ?_;refine zz1 ?_;refine wn c186 ?_;refine zz1 ?_;refine wn c181 ?_;rw [JA];refine zz1 ?_;exact zf
theorem un_18 (v env : Val) : JT 133 [.int .i64 18, JB v] env 0 (.d (JB (JPV v 0).1)) (JPV v 0).2 := by
 refine JEd.co (k := false) (JI _ _ _) trivial ?_;have hb : ((0 : Int) != 0) = false := rfl;have c18 := (J0 env 0 18).to trivial;have ct := (JGa ((v.text.length : Nat) : Int)).call trivial;have cl := (JGa ((v.list.length : Nat) : Int)).call trivial;generalize hT : JPV v 0 = T;unfold JPV at hT;rw [JA v, JA T.1];refine JI1 ?_;cases k4 : (v.kind == 4) with
 | true =>
  rw [k4, Bool.true_or, if_pos rfl] at hT;rw [← hT];refine zz91 ?_;refine wn ct ?_;simp only [JA];refine zz1 ?_;exact zf
 | false =>
  rw [k4, Bool.false_or] at hT;refine zz91 ?_;cases k5 : (v.kind == 5) with
  | true =>
   rw [k5, if_pos rfl] at hT;rw [← hT];simp only [go_sem, mC, k5, Va, Vb, Int.reduceBEq, simprocAttr];refine wn ct ?_;simp only [JA];refine zz1 ?_;exact zf
  | false =>
   rw [k5, if_neg Bool.false_ne_true] at hT;simp only [go_sem, mC, k5, Vc, Va, Vb, Int.reduceBEq, simprocAttr];apply ik <;> intro h8
   ·rw [if_pos h8] at hT;rw [← hT];refine wn cl ?_;simp only [JA];refine zz1 ?_;exact zf
   ·rw [if_neg (nF h8)] at hT;rw [← hT];refine wn c18 ?_;generalize zeroV = z at *;rw [JA];refine zz1 ?_;exact zf
theorem un_27 (hrep : JFN) (v env : Val) : ∃ (w : Val) (y : Int), JT 133 [.int .i64 27, JB v] env 0 (.d (JB w)) y ∧ JEz w ∧ w.text.length ≤ v.text.length + 1000 := by
 obtain ⟨w, y, h, h1, h2, h3⟩ := tof_ex hrep v env 0;refine ⟨w, y, ?_, ⟨h1, h2⟩, h3⟩;have c187 := h.to trivial;refine JEd.co (k := false) (JI _ _ _) trivial ?_;have hb : ((0 : Int) != 0) = false := rfl;rw [JA v, JA w] at c187;rw [JA v, JA w];refine JI1 ?_;refine wn c187 ?_;refine zz1 ?_;exact zf
theorem un_28 (hrep : JFN) (v env : Val) : JT 133 [.int .i64 28, JB v] env 0 (.d (JB (JH4 v 0).1)) (JH4 v 0).2 := by
 have c188 := (JRo hrep v env 0).to trivial;refine JEd.co (k := false) (JI _ _ _) trivial ?_;have hb : ((0 : Int) != 0) = false := rfl;generalize JH4 v 0 = R at *;rw [JA v, JA R.1] at c188;rw [JA v, JA R.1];refine JI1 ?_;refine wn c188 ?_;refine zz1 ?_;exact zf
def JFQ (op : Int) (v : Val) (x : Int) : Val × Int := if v.kind != 4 then (zeroV, UI x 18) else (.mk 4 0 0 (if op == 19 then Ug v.text 65 32 else Ug v.text 97 (-32)) [] [], x)
theorem un_19 (hs : JLs) (v env : Val) : JT 133 [.int .i64 19, JB v] env 0 (.d (JB (JFQ 19 v 0).1)) (JFQ 19 v 0).2 := by
 refine JEd.co (k := false) (JI _ _ _) trivial ?_;have hb : ((0 : Int) != 0) = false := rfl;have c18 := (J0 env 0 18).to trivial;have cs := (JST hs v.text).call trivial;have c37 := (Yy (Ug v.text 65 32)).call trivial;generalize hT : JFQ 19 v 0 = T;unfold JFQ at hT;rw [JA v, JA T.1];refine JI1 ?_;apply ik <;> intro h0
 ·rw [if_pos h0] at hT;rw [← hT];refine wn c18 ?_;generalize zeroV = z at *;rw [JA];refine zz1 ?_;exact zf
 rw [if_neg (nF h0)] at hT;have e : (if (19 : Int) == 19 then Ug v.text 65 32 else Ug v.text 97 (-32)) = Ug v.text 65 32 := rfl;rw [e] at hT;rw [← hT]
 try refine Zj ?_
 refine wn cs ?_;refine zz1 ?_;refine wn c37 ?_;simp only [JA];refine zz1 ?_;exact zf
theorem un_20 (hs : JLs) (v env : Val) : JT 133 [.int .i64 20, JB v] env 0 (.d (JB (JFQ 20 v 0).1)) (JFQ 20 v 0).2 := by
 refine JEd.co (k := false) (JI _ _ _) trivial ?_;have hb : ((0 : Int) != 0) = false := rfl;have c18 := (J0 env 0 18).to trivial;have cs := (JSU hs v.text).call trivial;have c37 := (Yy (Ug v.text 97 (-32))).call trivial;generalize hT : JFQ 20 v 0 = T;unfold JFQ at hT;rw [JA v, JA T.1];refine JI1 ?_;apply ik <;> intro h0
 ·rw [if_pos h0] at hT;rw [← hT];refine wn c18 ?_;generalize zeroV = z at *;rw [JA];refine zz1 ?_;exact zf
 rw [if_neg (nF h0)] at hT;have e : (if (20 : Int) == 19 then Ug v.text 65 32 else Ug v.text 97 (-32)) = Ug v.text 97 (-32) := rfl;rw [e] at hT;rw [← hT]
 try refine Zj ?_
 refine wn cs ?_;refine zz1 ?_;refine wn c37 ?_;simp only [JA];refine zz1 ?_;exact zf
theorem Xb (a b c : Dat) (l : List Dat) : nth (a :: b :: c :: l) (Int.toNat 2) = c := rfl
theorem ev_not (n : Int) (t : Str) (vs : List Val) (p : Exp) (env va : Val) (y : Int) (hp : JT 54 [JL p] env 0 (.d (JB va)) y) :
  JT 54 [JL (.mk 3 n t vs [p])] env 0 (.d (JB (UV (!ZH va y)))) (YK va y) := by
 refine UD.co (k := false) (JI _ _ _) trivial ?_;have hb : ((0 : Int) != 0) = false := rfl;have c121 := Jo.call trivial;have hl : J2 .i [(.int .i64 8, .fn (.func 172) [] []), (.int .i64 9, .fn (.func 173) [] []), (.int .i64 10, .fn (.func 174) [] []), (.int .i64 11, .fn (.func 175) [] [])] (.int .i64 3) = some none := rfl;rw [XI] at c121;have n1 := (YS p env va 0 y hp).to trivial;have c123 := (U5 (!ZH va y)).call trivial;generalize UV (!ZH va y) = R at *;rw [JE];simp only [Exp.op, Exp.int, Exp.text, Exp.value, Exp.args, Va, Vb];rw [JE p] at n1 ⊢;rw [JA R] at c123 ⊢;refine zz5 ?_;refine JC rfl c121 trivial ?_;refine zz6 ?_;refine ⟨rfl, ?_⟩;refine zz9 ?_;refine Y7 ?_;simp only [go_sem, b54_6, Un, Uw, Xb, Int.reduceBEq, Nat.reduceAdd, Nat.reduceEqDiff, Nat.reduceBEq, Nat.reduceLeDiff, reduceCtorEq, ↓reduceIte];refine ⟨sP, wn n1 ?_⟩;refine zz4 ?_;refine wn c123 ?_;refine zz4 ?_;exact zf
theorem JPX (n : Int) (t : Str) (vs : List Val) (p q : Exp) (env va : Val) (y1 : Int) (vb : Val) (y2 : Int) (hp : JT 54 [JL p] env 0 (.d (JB va)) y1) (hq : JT 54 [JL q] env (YK va y1) (.d (JB vb)) y2) (hc : ZH va y1 = true) :
  JT 54 [JL (.mk 4 n t vs [p, q])] env 0 (.d (JB (UV (ZH vb y2)))) (YK vb y2) := by
 refine UD.co (k := false) (JI _ _ _) trivial ?_;have hb : ((0 : Int) != 0) = false := rfl;have c121 := Jo.call trivial;have hl : J2 .i [(.int .i64 8, .fn (.func 172) [] []), (.int .i64 9, .fn (.func 173) [] []), (.int .i64 10, .fn (.func 174) [] []), (.int .i64 11, .fn (.func 175) [] [])] (.int .i64 4) = some none := rfl;rw [XI] at c121;have n1 := (YS p env va 0 y1 hp).to trivial;rw [hc] at n1;have n2 := (YS q env vb (YK va y1) y2 hq).to trivial;have c123 := (U5 (ZH vb y2)).call trivial;generalize UV (ZH vb y2) = R at *;generalize YK va y1 = x1 at *;rw [JE];simp only [Exp.op, Exp.int, Exp.text, Exp.value, Exp.args, Va, Vb];rw [JE p] at n1;rw [JE q] at n2;rw [JE p, JE q];rw [JA R] at c123 ⊢;refine zz5 ?_;refine JC rfl c121 trivial ?_;refine zz6 ?_;refine ⟨rfl, ?_⟩;refine zz9 ?_;refine Y7 ?_;refine Zk ?_;refine zz92 ?_;refine ⟨sP, wn n1 ?_⟩;refine zz4 ?_;refine ⟨sP, wn n2 ?_⟩;refine zz4 ?_;refine wn c123 ?_;refine zz4 ?_;exact zf
theorem JPY (n : Int) (t : Str) (vs : List Val) (p q : Exp) (env va : Val) (y1 : Int)  (hp : JT 54 [JL p] env 0 (.d (JB va)) y1) (hc : ZH va y1 = false) :
  JT 54 [JL (.mk 4 n t vs [p, q])] env 0 (.d (JB (UV (false)))) (YK va y1) := by
 refine UD.co (k := false) (JI _ _ _) trivial ?_;have hb : ((0 : Int) != 0) = false := rfl;have c121 := Jo.call trivial;have hl : J2 .i [(.int .i64 8, .fn (.func 172) [] []), (.int .i64 9, .fn (.func 173) [] []), (.int .i64 10, .fn (.func 174) [] []), (.int .i64 11, .fn (.func 175) [] [])] (.int .i64 4) = some none := rfl;rw [XI] at c121;have n1 := (YS p env va 0 y1 hp).to trivial;rw [hc] at n1
 skip
 have c123 := (U5 (false)).call trivial;generalize UV (false) = R at *;generalize YK va y1 = x1 at *;rw [JE];simp only [Exp.op, Exp.int, Exp.text, Exp.value, Exp.args, Va, Vb];rw [JE p] at n1
 skip
 rw [JE p, JE q];rw [JA R] at c123 ⊢;refine zz5 ?_;refine JC rfl c121 trivial ?_;refine zz6 ?_;refine ⟨rfl, ?_⟩;refine zz9 ?_;refine Y7 ?_;refine Zk ?_;refine zz92 ?_;refine ⟨sP, wn n1 ?_⟩;refine zz4 ?_
 skip
 refine wn c123 ?_;refine zz4 ?_;exact zf
theorem JSV (n : Int) (t : Str) (vs : List Val) (p q : Exp) (env va : Val) (y1 : Int) (vb : Val) (y2 : Int) (hp : JT 54 [JL p] env 0 (.d (JB va)) y1) (hq : JT 54 [JL q] env (YK va y1) (.d (JB vb)) y2) (hc : ZH va y1 = false) :
  JT 54 [JL (.mk 5 n t vs [p, q])] env 0 (.d (JB (UV (ZH vb y2)))) (YK vb y2) := by
 refine UD.co (k := false) (JI _ _ _) trivial ?_;have hb : ((0 : Int) != 0) = false := rfl;have c121 := Jo.call trivial;have hl : J2 .i [(.int .i64 8, .fn (.func 172) [] []), (.int .i64 9, .fn (.func 173) [] []), (.int .i64 10, .fn (.func 174) [] []), (.int .i64 11, .fn (.func 175) [] [])] (.int .i64 5) = some none := rfl;rw [XI] at c121;have n1 := (YS p env va 0 y1 hp).to trivial;rw [hc] at n1;have n2 := (YS q env vb (YK va y1) y2 hq).to trivial;have c123 := (U5 (ZH vb y2)).call trivial;generalize UV (ZH vb y2) = R at *;generalize YK va y1 = x1 at *;rw [JE];simp only [Exp.op, Exp.int, Exp.text, Exp.value, Exp.args, Va, Vb];rw [JE p] at n1;rw [JE q] at n2;rw [JE p, JE q];rw [JA R] at c123 ⊢;refine zz5 ?_;refine JC rfl c121 trivial ?_;refine zz6 ?_;refine ⟨rfl, ?_⟩;refine zz9 ?_;refine Y7 ?_;refine Zk ?_;refine zz93 ?_;refine ⟨sP, wn n1 ?_⟩;refine zz4 ?_;refine ⟨sP, wn n2 ?_⟩;refine zz4 ?_;refine wn c123 ?_;refine zz4 ?_;exact zf
theorem JSW (n : Int) (t : Str) (vs : List Val) (p q : Exp) (env va : Val) (y1 : Int)  (hp : JT 54 [JL p] env 0 (.d (JB va)) y1) (hc : ZH va y1 = true) :
  JT 54 [JL (.mk 5 n t vs [p, q])] env 0 (.d (JB (UV (true)))) (YK va y1) := by
 refine UD.co (k := false) (JI _ _ _) trivial ?_;have hb : ((0 : Int) != 0) = false := rfl;have c121 := Jo.call trivial;have hl : J2 .i [(.int .i64 8, .fn (.func 172) [] []), (.int .i64 9, .fn (.func 173) [] []), (.int .i64 10, .fn (.func 174) [] []), (.int .i64 11, .fn (.func 175) [] [])] (.int .i64 5) = some none := rfl;rw [XI] at c121;have n1 := (YS p env va 0 y1 hp).to trivial;rw [hc] at n1
 skip
 have c123 := (U5 (true)).call trivial;generalize UV (true) = R at *;generalize YK va y1 = x1 at *;rw [JE];simp only [Exp.op, Exp.int, Exp.text, Exp.value, Exp.args, Va, Vb];rw [JE p] at n1
 skip
 rw [JE p, JE q];rw [JA R] at c123 ⊢;refine zz5 ?_;refine JC rfl c121 trivial ?_;refine zz6 ?_;refine ⟨rfl, ?_⟩;refine zz9 ?_;refine Y7 ?_;refine Zk ?_;refine zz93 ?_;refine ⟨sP, wn n1 ?_⟩;refine zz4 ?_
 skip
 refine wn c123 ?_;refine zz4 ?_;exact zf
theorem ev_eq (n : Int) (t : Str) (vs : List Val) (p q : Exp) (env va vb : Val) (y1 y2 : Int) (hp : JT 54 [JL p] env 0 (.d (JB va)) y1) (hq : JT 54 [JL q] env (JG va y1) (.d (JB vb)) y2) (oa : okV (JF va y1)) (ob : okV (JF vb y2)) :
  JT 54 [JL (.mk 6 n t vs [p, q])] env 0 (.d (JB (UV ((JBC (JF va y1) (JF vb y2) (JG vb y2)).1 == true)))) (JBC (JF va y1) (JF vb y2) (JG vb y2)).2 := by
 refine UD.co (k := false) (JI _ _ _) trivial ?_;have hb : ((0 : Int) != 0) = false := rfl;have c121 := Jo.call trivial;have hl : J2 .i [(.int .i64 8, .fn (.func 172) [] []), (.int .i64 9, .fn (.func 173) [] []), (.int .i64 10, .fn (.func 174) [] []), (.int .i64 11, .fn (.func 175) [] [])] (.int .i64 6) = some none := rfl;rw [XI] at c121;have n1 := (Jl p env va 0 y1 hp).to trivial;have n2 := (Jl q env vb (JG va y1) y2 hq).to trivial;have c129 := (JGf (JF va y1) (JF vb y2) env (JG vb y2) oa ob).to trivial;generalize JBC (JF va y1) (JF vb y2) (JG vb y2) = R at *;have c123 := (U5 (R.1 == true)).call trivial;generalize UV (R.1 == true) = W at *;generalize JF va y1 = wa at *;generalize JF vb y2 = wb at *;generalize JG vb y2 = x2 at *;generalize JG va y1 = x1 at *;rw [JE];simp only [Exp.op, Exp.int, Exp.text, Exp.value, Exp.args, Va, Vb];rw [JE p] at n1 ⊢;rw [JE q] at n2 ⊢;rw [JA] at n1 n2;rw [JA wa, JA wb] at c129;rw [JA W] at c123 ⊢;refine zz5 ?_;refine JC rfl c121 trivial ?_;refine zz6 ?_;refine ⟨rfl, ?_⟩;refine zz9 ?_;refine Y7 ?_;refine Zk ?_;refine JBc ?_;refine zz94 ?_;refine ⟨sP, wn n1 ?_⟩;refine zz4 ?_;refine ⟨sP, wn n2 ?_⟩;refine zz4 ?_;refine JC rfl c129 ⟨rfl, trivial⟩ ?_;refine zz4 ?_;refine JC rfl c123 trivial ?_;refine zz4 ?_
 first | exact rfl | exact ⟨rfl, rfl⟩ | exact ⟨rfl, rfl, rfl⟩
theorem ev_ne (n : Int) (t : Str) (vs : List Val) (p q : Exp) (env va vb : Val) (y1 y2 : Int) (hp : JT 54 [JL p] env 0 (.d (JB va)) y1) (hq : JT 54 [JL q] env (JG va y1) (.d (JB vb)) y2) (oa : okV (JF va y1)) (ob : okV (JF vb y2)) :
  JT 54 [JL (.mk 7 n t vs [p, q])] env 0 (.d (JB (UV ((JBC (JF va y1) (JF vb y2) (JG vb y2)).1 == false)))) (JBC (JF va y1) (JF vb y2) (JG vb y2)).2 := by
 refine UD.co (k := false) (JI _ _ _) trivial ?_;have hb : ((0 : Int) != 0) = false := rfl;have c121 := Jo.call trivial;have hl : J2 .i [(.int .i64 8, .fn (.func 172) [] []), (.int .i64 9, .fn (.func 173) [] []), (.int .i64 10, .fn (.func 174) [] []), (.int .i64 11, .fn (.func 175) [] [])] (.int .i64 7) = some none := rfl;rw [XI] at c121;have n1 := (Jl p env va 0 y1 hp).to trivial;have n2 := (Jl q env vb (JG va y1) y2 hq).to trivial;have c129 := (JGf (JF va y1) (JF vb y2) env (JG vb y2) oa ob).to trivial;generalize JBC (JF va y1) (JF vb y2) (JG vb y2) = R at *;have c123 := (U5 (R.1 == false)).call trivial;generalize UV (R.1 == false) = W at *;generalize JF va y1 = wa at *;generalize JF vb y2 = wb at *;generalize JG vb y2 = x2 at *;generalize JG va y1 = x1 at *;rw [JE];simp only [Exp.op, Exp.int, Exp.text, Exp.value, Exp.args, Va, Vb];rw [JE p] at n1 ⊢;rw [JE q] at n2 ⊢;rw [JA] at n1 n2;rw [JA wa, JA wb] at c129;rw [JA W] at c123 ⊢;refine zz5 ?_;refine JC rfl c121 trivial ?_;refine zz6 ?_;refine ⟨rfl, ?_⟩;refine zz9 ?_;refine Y7 ?_;refine Zk ?_;refine JBc ?_;refine zz94 ?_;refine ⟨sP, wn n1 ?_⟩;refine zz4 ?_;refine ⟨sP, wn n2 ?_⟩;refine zz4 ?_;refine JC rfl c129 ⟨rfl, trivial⟩ ?_;refine zz4 ?_;refine JC rfl c123 trivial ?_;refine zz4 ?_
 first | exact rfl | exact ⟨rfl, rfl⟩ | exact ⟨rfl, rfl, rfl⟩
theorem ev_cat (n : Int) (t : Str) (vs : List Val) (p q : Exp) (env va vb : Val) (y1 y2 : Int) (hp : JT 54 [JL p] env 0 (.d (JB va)) y1) (hq : JT 54 [JL q] env (JG va y1) (.d (JB vb)) y2) :
  JT 54 [JL (.mk 17 n t vs [p, q])] env 0 (.d (JB (JGg (JF va y1) (JF vb y2) (JG vb y2)).1)) (JGg (JF va y1) (JF vb y2) (JG vb y2)).2 := by
 refine UD.co (k := false) (JI _ _ _) trivial ?_;have hb : ((0 : Int) != 0) = false := rfl;have c121 := Jo.call trivial;have hl : J2 .i [(.int .i64 8, .fn (.func 172) [] []), (.int .i64 9, .fn (.func 173) [] []), (.int .i64 10, .fn (.func 174) [] []), (.int .i64 11, .fn (.func 175) [] [])] (.int .i64 17) = some none := rfl;rw [XI] at c121;have n1 := (Jl p env va 0 y1 hp).to trivial;have n2 := (Jl q env vb (JG va y1) y2 hq).to trivial;have c131 := (JRg (JF va y1) (JF vb y2) env (JG vb y2)).to trivial;generalize JGg (JF va y1) (JF vb y2) (JG vb y2) = R at *;generalize JF va y1 = wa at *;generalize JF vb y2 = wb at *;generalize JG vb y2 = x2 at *;generalize JG va y1 = x1 at *;rw [JE];simp only [Exp.op, Exp.int, Exp.text, Exp.value, Exp.args, Va, Vb];rw [JE p] at n1 ⊢;rw [JE q] at n2 ⊢;rw [JA] at n1 n2;rw [JA wa, JA wb, JA R.1] at c131;rw [JA R.1];refine zz5 ?_;refine JC rfl c121 trivial ?_;refine zz6 ?_;refine ⟨rfl, ?_⟩;refine zz9 ?_;refine Y7 ?_;refine Zk ?_;refine JBc ?_;refine JDK ?_;refine JDL ?_;refine JDM ?_;simp only [go_sem, JN5, Un, Uw, Xb, Int.reduceBEq, Nat.reduceAdd, Nat.reduceEqDiff, Nat.reduceBEq, Nat.reduceLeDiff, reduceCtorEq, ↓reduceIte];refine ⟨sP, wn n1 ?_⟩;refine zz4 ?_;refine ⟨sP, wn n2 ?_⟩;refine zz4 ?_;refine wn c131 ?_;refine zz4 ?_;exact zf
def JPZ (v : Val) (y : Int) : Bool := (y != 0) || !Uh v
theorem JLu (n : Int) (t : Str) (vs : List Val) (p q : Exp) (env va : Val) (y1 : Int) (hp : JT 54 [JL p] env 0 (.d (JB va)) y1) (hc : JPZ va y1 = true) :
  JT 54 [JL (.mk 23 n t vs [p, q])] env 0 (.d (JB va)) y1 := by
 refine UD.co (k := false) (JI _ _ _) trivial ?_;have hb : ((0 : Int) != 0) = false := rfl;have c121 := Jo.call trivial;have hl : J2 .i [(.int .i64 8, .fn (.func 172) [] []), (.int .i64 9, .fn (.func 173) [] []), (.int .i64 10, .fn (.func 174) [] []), (.int .i64 11, .fn (.func 175) [] [])] (.int .i64 23) = some none := rfl;rw [XI] at c121;have n1 := hp.to trivial;have c13 := (JAC va).call trivial;rw [JE];simp only [Exp.op, Exp.int, Exp.text, Exp.value, Exp.args, Va, Vb];rw [JE p] at n1 ⊢;rw [JE q];rw [JA va] at n1 c13;rw [JA va];refine zz5 ?_;refine JC rfl c121 trivial ?_;refine zz6 ?_;refine ⟨rfl, ?_⟩;refine zz9 ?_;refine Y7 ?_;refine Zk ?_;refine JBc ?_;refine JDK ?_;refine JDL ?_;refine JDM ?_;refine JD5 ?_;refine JFF ?_;refine zz95 ?_;refine ⟨sP, wn n1 ?_⟩;refine zz4 ?_;refine sq (!Uh va) ?_ ?_
 ·refine zz4 ?_;refine wn c13 ?_;exact zz4 trivial
 have hh : JPZ va y1 = ((y1 != 0) || !Uh va) := rfl;refine zz4 ?_;rw [← hh, hc];simp only [go_sem, JN7, Nat.reduceAdd, Nat.reduceEqDiff, Nat.reduceBEq, Nat.reduceLeDiff, reduceCtorEq, ↓reduceIte]
theorem JLv (n : Int) (t : Str) (vs : List Val) (p q : Exp) (env va vb : Val) (y1 y2 : Int) (hp : JT 54 [JL p] env 0 (.d (JB va)) y1) (hq : JT 54 [JL q] env y1 (.d (JB vb)) y2) (hc : JPZ va y1 = false) :
  JT 54 [JL (.mk 23 n t vs [p, q])] env 0 (.d (JB vb)) y2 := by
 refine UD.co (k := false) (JI _ _ _) trivial ?_;have hb : ((0 : Int) != 0) = false := rfl;have c121 := Jo.call trivial;have hl : J2 .i [(.int .i64 8, .fn (.func 172) [] []), (.int .i64 9, .fn (.func 173) [] []), (.int .i64 10, .fn (.func 174) [] []), (.int .i64 11, .fn (.func 175) [] [])] (.int .i64 23) = some none := rfl;rw [XI] at c121;have n1 := hp.to trivial;have n2 := hq.to trivial;have c13 := (JAC va).call trivial;rw [JE];simp only [Exp.op, Exp.int, Exp.text, Exp.value, Exp.args, Va, Vb];rw [JE p] at n1 ⊢;rw [JE q] at n2 ⊢;rw [JA va] at n1 c13;rw [JA vb] at n2 ⊢;refine zz5 ?_;refine JC rfl c121 trivial ?_;refine zz6 ?_;refine ⟨rfl, ?_⟩;refine zz9 ?_;refine Y7 ?_;refine Zk ?_;refine JBc ?_;refine JDK ?_;refine JDL ?_;refine JDM ?_;refine JD5 ?_;refine JFF ?_;refine zz95 ?_;refine ⟨sP, wn n1 ?_⟩;refine zz4 ?_;refine sq (!Uh va) ?_ ?_
 ·refine zz4 ?_;refine wn c13 ?_;exact zz4 trivial
 have hh : JPZ va y1 = ((y1 != 0) || !Uh va) := rfl;refine zz4 ?_;rw [← hh, hc];refine zz4 ?_;refine ⟨sP, wn n2 ?_⟩;refine zz4 ?_;exact zf
theorem JSX (n : Int) (t : Str) (vs : List Val) (p q r : Exp) (env va vb : Val) (y1 y2 : Int) (hp : JT 54 [JL p] env 0 (.d (JB va)) y1) (hq : JT 54 [JL q] env (YK va y1) (.d (JB vb)) y2) (hc : ZH va y1 = true) :
  JT 54 [JL (.mk 24 n t vs [p, q, r])] env 0 (.d (JB vb)) y2 := by
 refine UD.co (k := false) (JI _ _ _) trivial ?_;have hb : ((0 : Int) != 0) = false := rfl;have c121 := Jo.call trivial;have hl : J2 .i [(.int .i64 8, .fn (.func 172) [] []), (.int .i64 9, .fn (.func 173) [] []), (.int .i64 10, .fn (.func 174) [] []), (.int .i64 11, .fn (.func 175) [] [])] (.int .i64 24) = some none := rfl;rw [XI] at c121;have n1 := (YS p env va 0 y1 hp).to trivial;rw [hc] at n1;have n2 := hq.to trivial;generalize YK va y1 = x1 at *;rw [JE];simp only [Exp.op, Exp.int, Exp.text, Exp.value, Exp.args, Va, Vb];rw [JE p] at n1;rw [JE q] at n2;rw [JE p, JE q, JE r];rw [JA vb] at n2 ⊢;refine zz5 ?_;refine JC rfl c121 trivial ?_;refine zz6 ?_;refine ⟨rfl, ?_⟩;refine zz9 ?_;refine Y7 ?_;refine Zk ?_;refine JBc ?_;refine JDK ?_;refine JDL ?_;refine JDM ?_;refine JD5 ?_;refine JFF ?_;refine JHZ ?_;refine zz96 ?_;refine ⟨sP, wn n1 ?_⟩;refine zz97 ?_;refine ⟨sP, wn n2 ?_⟩;refine zz4 ?_;exact zf
theorem JSY (n : Int) (t : Str) (vs : List Val) (p q r : Exp) (env va vb : Val) (y1 y2 : Int) (hp : JT 54 [JL p] env 0 (.d (JB va)) y1) (hq : JT 54 [JL r] env (YK va y1) (.d (JB vb)) y2) (hc : ZH va y1 = false) :
  JT 54 [JL (.mk 24 n t vs [p, q, r])] env 0 (.d (JB vb)) y2 := by
 refine UD.co (k := false) (JI _ _ _) trivial ?_;have hb : ((0 : Int) != 0) = false := rfl;have c121 := Jo.call trivial;have hl : J2 .i [(.int .i64 8, .fn (.func 172) [] []), (.int .i64 9, .fn (.func 173) [] []), (.int .i64 10, .fn (.func 174) [] []), (.int .i64 11, .fn (.func 175) [] [])] (.int .i64 24) = some none := rfl;rw [XI] at c121;have n1 := (YS p env va 0 y1 hp).to trivial;rw [hc] at n1;have n2 := hq.to trivial;generalize YK va y1 = x1 at *;rw [JE];simp only [Exp.op, Exp.int, Exp.text, Exp.value, Exp.args, Va, Vb];rw [JE p] at n1;rw [JE r] at n2;rw [JE p, JE q, JE r];rw [JA vb] at n2 ⊢;refine zz5 ?_;refine JC rfl c121 trivial ?_;refine zz6 ?_;refine ⟨rfl, ?_⟩;refine zz9 ?_;refine Y7 ?_;refine Zk ?_;refine JBc ?_;refine JDK ?_;refine JDL ?_;refine JDM ?_;refine JD5 ?_;refine JFF ?_;refine JHZ ?_;refine zz96 ?_;refine ⟨sP, wn n1 ?_⟩;refine zz97 ?_;refine ⟨sP, wn n2 ?_⟩;refine zz4 ?_;exact zf
theorem ev_sum (n : Int) (t : Str) (vs : List Val) (es : List Exp) (env : Val) (ht : t.length ≤ 68719476736) (hsz : szV env ≤ 1000000) (JAp : CT 179 [.d (.list 3 ((JH t).1.map Jr))] [] (.d (.bool (evP (JH t).1))) []) :
  JT 54 [JL (.mk 26 n t vs es)] env 0 (.d (JB (JGo (.mk 26 n t vs es) env 0).1)) (JGo (.mk 26 n t vs es) env 0).2 := by
 refine UD.co (k := false) (JI _ _ _) trivial ?_;have hb : ((0 : Int) != 0) = false := rfl;have c121 := Jo.call trivial;have hl : J2 .i [(.int .i64 8, .fn (.func 172) [] []), (.int .i64 9, .fn (.func 173) [] []), (.int .i64 10, .fn (.func 174) [] []), (.int .i64 11, .fn (.func 175) [] [])] (.int .i64 26) = some none := rfl;rw [XI] at c121;have c127 := (JSB (.mk 26 n t vs es) env 0 ht hsz JAp).to trivial;generalize JGo (.mk 26 n t vs es) env 0 = R at *;rw [JE] at c127 ⊢;simp only [Exp.op, Exp.int, Exp.text, Exp.value, Exp.args, Va, Vb] at c127 ⊢;rw [JA R.1] at c127 ⊢;refine zz5 ?_;refine JC rfl c121 trivial ?_;refine zz6 ?_;refine ⟨rfl, ?_⟩;refine zz9 ?_;refine Y7 ?_;simp only [go_sem, b54_5, Un, Uw, Xb, Int.reduceBEq, simprocAttr];refine wn c127 ?_;refine zz4 ?_;exact zf
noncomputable def JE0 (t : Str) (env : Val) (x : Int) : Val × Int :=
 if ((ZK env (JH t).1).2 != 0) && ((ZK env (JH t).1).2 != 19) then (zeroV, UI x (ZK env (JH t).1).2) else ((ZK env (JH t).1).1, x)
theorem JSZ (n : Int) (t : Str) (vs : List Val) (es : List Exp) (env : Val) (ht : t.length ≤ 68719476736) (hsz : szV env ≤ 1000000) (JAp : JQ Tryz.prog 179 [.d (.list 3 ((JH t).1.map Jr))] [] (.d (.bool (evP (JH t).1))) []) :
    JT 54 [JL (.mk 2 n t vs es)] env 0 (.d (JB (JE0 t env 0).1)) (JE0 t env 0).2 := by
  refine UD.con (k := false) (Nat.le_of_ble_eq_true rfl) (JI _ _ _) trivial ?_
  have hb : ((0 : Int) != 0) = false := rfl
  have c121 := Jo.call trivial
  have hl : J2 .i [(.int .i64 8, .fn (.func 172) [] []), (.int .i64 9, .fn (.func 173) [] []), (.int .i64 10, .fn (.func 174) [] []), (.int .i64 11, .fn (.func 175) [] [])] (.int .i64 2) = some none := rfl
  rw [XI] at c121
  have hpl := ZJ t
  have hpv := JBF t
  have c80 := (JCc t ht).call (by simp [JU])
  have c125 := (JKv env (JH t).1 (by omega) (fun p hp => by have := (YZ (hpv p hp)).1; omega) hsz JAp).call (by simp [JU])
  have cf := fun y => (J0 env 0 y).to trivial
  generalize hT : JE0 t env 0 = T
  unfold JE0 at hT
  generalize JH t = PS at *
  generalize ZK env PS.1 = G at *
  have c123 := (U5 (G.2 == 0)).call trivial
  rw [JE]
  simp only [Exp.op, Exp.int, Exp.text, Exp.value, Exp.args, Va, Vb]
  rw [JA env, JA G.1] at c125
  rw [JA] at c123
  rw [JA T.1]
  simp only [go_sem, JKh, mC, hb, Va, Vb, Int.reduceBEq, Nat.reduceAdd, Nat.reduceEqDiff, Nat.reduceBEq, Nat.reduceLeDiff, reduceCtorEq, ↓reduceIte]
  refine JC rfl c121 trivial ?_
  simp only [go_sem, hl, Int.reduceBEq, Nat.reduceAdd, Nat.reduceEqDiff, Nat.reduceBEq, Nat.reduceLeDiff, reduceCtorEq, ↓reduceIte]
  refine ⟨rfl, ?_⟩
  simp only [go_sem, JEb, Un, Uw, Xb, Int.reduceBEq, Nat.reduceAdd, Nat.reduceEqDiff, Nat.reduceBEq, Nat.reduceLeDiff, reduceCtorEq, ↓reduceIte]
  simp only [go_sem, JN2, Un, Uw, Xb, Int.reduceBEq, Nat.reduceAdd, Nat.reduceEqDiff, Nat.reduceBEq, Nat.reduceLeDiff, reduceCtorEq, ↓reduceIte]
  refine UU rfl c80 trivial ?_
  simp only [go_sem, mC, Un, Uw, Xb, Va, Vb, Int.reduceBEq, Nat.reduceAdd, Nat.reduceEqDiff, Nat.reduceBEq, Nat.reduceLeDiff, reduceCtorEq, ↓reduceIte]
  refine UU rfl c125 trivial ?_
  simp only [go_sem, mC, Un, Uw, Xb, Va, Vb, Int.reduceBEq, Nat.reduceAdd, Nat.reduceEqDiff, Nat.reduceBEq, Nat.reduceLeDiff, reduceCtorEq, ↓reduceIte]
  refine Us (G.2 != 19) (fun _ => ?_) ?_
  · simp only [go_sem, mC, Un, Uw, Xb, Va, Vb, Int.reduceBEq, Nat.reduceAdd, Nat.reduceEqDiff, Nat.reduceBEq, Nat.reduceLeDiff, reduceCtorEq, ↓reduceIte]
  simp only [go_sem, mC, Un, Uw, Xb, Va, Vb, Int.reduceBEq, Nat.reduceAdd, Nat.reduceEqDiff, Nat.reduceBEq, Nat.reduceLeDiff, reduceCtorEq, ↓reduceIte]
  refine ⟨fun h0 => ?_, fun h0 => ?_⟩
  · rw [if_pos h0] at hT
    rw [← hT]
    simp only [go_sem, JN1, Nat.reduceAdd, Nat.reduceEqDiff, Nat.reduceBEq, Nat.reduceLeDiff, reduceCtorEq, ↓reduceIte]
    refine UU rfl (cf G.2) ⟨rfl, trivial⟩ ?_
    generalize zeroV = z at *
    rw [JA]
    simp only [go_sem, mC, Un, Uw, Xb, Va, Vb, Int.reduceBEq, Nat.reduceAdd, Nat.reduceEqDiff, Nat.reduceBEq, Nat.reduceLeDiff, reduceCtorEq, ↓reduceIte]
    try exact ⟨rfl, rfl⟩
  rw [if_neg (by rw [h0]; exact Bool.false_ne_true)] at hT
  rw [← hT]
  try simp only [go_sem, mC, Un, Uw, Xb, Va, Vb, Int.reduceBEq, Nat.reduceAdd, Nat.reduceEqDiff, Nat.reduceBEq, Nat.reduceLeDiff, reduceCtorEq, ↓reduceIte]
  skip
  try exact ⟨rfl, rfl⟩
noncomputable def JJm (t : Str) (env : Val) (x : Int) : Val × Int :=
 if ((ZK env (JH t).1).2 != 0) && ((ZK env (JH t).1).2 != 19) then (zeroV, UI x (ZK env (JH t).1).2) else (UV ((ZK env (JH t).1).2 == 0), x)
theorem ev_has (n : Int) (t : Str) (vs : List Val) (es : List Exp) (env : Val) (ht : t.length ≤ 68719476736) (hsz : szV env ≤ 1000000) (JAp : CT 179 [.d (.list 3 ((JH t).1.map Jr))] [] (.d (.bool (evP (JH t).1))) []) :
  JT 54 [JL (.mk 22 n t vs es)] env 0 (.d (JB (JJm t env 0).1)) (JJm t env 0).2 := by
 refine UD.co (k := false) (JI _ _ _) trivial ?_;have hb : ((0 : Int) != 0) = false := rfl;have c121 := Jo.call trivial;have hl : J2 .i [(.int .i64 8, .fn (.func 172) [] []), (.int .i64 9, .fn (.func 173) [] []), (.int .i64 10, .fn (.func 174) [] []), (.int .i64 11, .fn (.func 175) [] [])] (.int .i64 22) = some none := rfl;rw [XI] at c121;have hpl := ZJ t;have hpv := JBF t;have c80 := (JCc t ht).call (by simp [JU]);have c125 := (JKv env (JH t).1 oM (fun p hp => by have := (YZ (hpv p hp)).1; omega) hsz JAp).call (by simp [JU]);have cf := fun y => (J0 env 0 y).to trivial
 generalize hT : JJm t env 0 = T;unfold JJm at hT;generalize JH t = PS at *;generalize ZK env PS.1 = G at *;have c123 := (U5 (G.2 == 0)).call trivial;rw [JE];simp only [Exp.op, Exp.int, Exp.text, Exp.value, Exp.args, Va, Vb];rw [JA env, JA G.1] at c125;rw [JA] at c123;rw [JA T.1];refine zz5 ?_;refine JC rfl c121 trivial ?_;refine zz6 ?_;refine ⟨rfl, ?_⟩;refine zz9 ?_;simp only [go_sem, JN2, Un, Uw, Xb, Int.reduceBEq, simprocAttr];refine wn c80 ?_;refine zz4 ?_;refine wn c125 ?_;refine zz4 ?_;refine sq (G.2 != 19) ?_ ?_
 ·exact zz4 trivial
 refine zz4 ?_;apply ik <;> intro h0
 ·rw [if_pos h0] at hT;rw [← hT];simp only [go_sem, JN1, simprocAttr];refine wn (cf G.2) ?_;generalize zeroV = z at *;rw [JA];refine zz4 ?_;exact zf
 rw [if_neg (nF h0)] at hT;rw [← hT]
 try refine zz4 ?_
 simp only [go_sem, b54_3, simprocAttr];refine wn c123 ?_;refine zz4 ?_;exact zf
def JCu (F : Exp → Int → Val × Int) : List Exp → Int → List Val × Int
 | [], x => ([], x)
 | p :: r, x => (JF (F p x).1 (F p x).2 :: (JCu F r (JG (F p x).1 (F p x).2)).1, (JCu F r (JG (F p x).1 (F p x).2)).2)
def JPa (a : Val) : List Val → Int → Bool × Int
 | [], x => (false, x)
 | v :: r, x => if (JBC a v x).1 then (true, (JBC a v x).2) else JPa a r (JBC a v x).2
def inR (F : Exp → Int → Val × Int) (p : Exp) (qs : List Exp) : Bool × Int :=
 JPa (JF (F p 0).1 (F p 0).2) (JCu F qs (JG (F p 0).1 (F p 0).2)).1 (JCu F qs (JG (F p 0).1 (F p 0).2)).2
theorem JK5 {F : Exp → Int → Val × Int} (ho : ∀ p x, okV (JF (F p x).1 (F p x).2)) : ∀ (l : List Exp) (x : Int), (JCu F l x).1.length = l.length ∧ ∀ v ∈ (JCu F l x).1, okV v
 | [], x => ⟨rfl, by intro v hv; cases hv⟩
 | p :: r, x => by
  obtain ⟨h1, h2⟩ := JK5 ho r (JG (F p x).1 (F p x).2);refine ⟨by simp only [JCu, Vf, h1], ?_⟩;intro v hv;simp only [JCu] at hv;rcases VA.1 hv with rfl | hv
  ·exact ho p x
  ·exact h2 v hv
theorem ev_in (n : Int) (t : Str) (vs : List Val) (p : Exp) (qs : List Exp) (env : Val) (F : Exp → Int → Val × Int) (hF : ∀ e, e = p ∨ e ∈ qs → ∀ x, JT 54 [JL e] env x (.d (JB (F e x).1)) (F e x).2)
  (ho : ∀ e x, okV (JF (F e x).1 (F e x).2)) (hq : qs.length ≤ 68719476736) :
  JT 54 [JL (.mk 25 n t vs (p :: qs))] env 0 (.d (JB (UV (inR F p qs).1))) (inR F p qs).2 := by
 refine UD.co (k := false) (JI _ _ _) trivial ?_;have hb : ((0 : Int) != 0) = false := rfl;have c121 := Jo.call trivial;have hl : J2 .i [(.int .i64 8, .fn (.func 172) [] []), (.int .i64 9, .fn (.func 173) [] []), (.int .i64 10, .fn (.func 174) [] []), (.int .i64 11, .fn (.func 175) [] [])] (.int .i64 25) = some none := rfl;rw [XI] at c121;have n1 := (Jl p env (F p 0).1 0 (F p 0).2 (hF p (.inl rfl) 0)).to trivial;generalize hR : inR F p qs = R;unfold inR at hR;have ha := ho p 0;generalize JF (F p 0).1 (F p 0).2 = a at *;generalize JG (F p 0).1 (F p 0).2 = x1 at *;have hlr := JK5 ho qs x1;generalize hL : JCu F qs x1 = L at *;have c123 := (U5 R.1).call trivial;generalize UV R.1 = W at *;rw [JE];simp only [Exp.op, Exp.int, Exp.text, Exp.value, Exp.args, Va, Vb];rw [JE p] at n1 ⊢;rw [JA] at n1;rw [JA W] at c123 ⊢;have t1 : Int.toNat 1 = 1 := rfl;refine zz5 ?_;refine JC rfl c121 trivial ?_;refine zz6 ?_;refine ⟨rfl, ?_⟩;simp only [go_sem, JEb, Un, Uw, Int.reduceBEq, Nat.reduceAdd, Nat.reduceEqDiff, Nat.reduceBEq, Nat.reduceLeDiff, reduceCtorEq, ↓reduceIte];simp only [go_sem, JGe, Un, Uw, Int.reduceBEq, Nat.reduceAdd, Nat.reduceEqDiff, Nat.reduceBEq, Nat.reduceLeDiff, reduceCtorEq, ↓reduceIte];simp only [go_sem, JGd, Un, Uw, Int.reduceBEq, Nat.reduceAdd, Nat.reduceEqDiff, Nat.reduceBEq, Nat.reduceLeDiff, reduceCtorEq, ↓reduceIte];simp only [go_sem, JGc, Un, Uw, Int.reduceBEq, Nat.reduceAdd, Nat.reduceEqDiff, Nat.reduceBEq, Nat.reduceLeDiff, reduceCtorEq, ↓reduceIte];simp only [go_sem, JN3, Un, Uw, Int.reduceBEq, Nat.reduceAdd, Nat.reduceEqDiff, Nat.reduceBEq, Nat.reduceLeDiff, reduceCtorEq, ↓reduceIte];refine ⟨sP, wn n1 ?_⟩;refine ZU ?_;have e1 : (qs.map JL).take (((qs.length + 1 : Nat) : Int) - 1).toNat = qs.map JL := by
  apply List.take_of_length_le;rw [Vc]; omega
 simp only [go_sem, t1, e1, Vc, Vf, Nat.reduceAdd, Nat.reduceEqDiff, Nat.reduceBEq, Nat.reduceLeDiff, reduceCtorEq, ↓reduceIte];refine ⟨⟨oM, oM, oM⟩, ?_⟩;refine JJ (fun n s => ∃ (k : Nat) (acc : List Val) (x : Int), k ≤ qs.length ∧ n = qs.length - k ∧ acc.length = k ∧ L = (acc ++ (JCu F (qs.drop k) x).1, (JCu F (qs.drop k) x).2) ∧
  s = ⟨[(0, .ref 1000 0), (4, .ref 4 0), (15, .ref 15 0), (16, .d (.bool false)), (17, .ms 199 k), (188, .d (.list 5 (qs.map JL))), (189, .d (.int .i64 qs.length)), (190, .d (.int .i64 k))],
   [(1000, .box [.d (.int .i64 env.kind), .d (.int .i64 env.int), .d (.int .i64 env.scale), .d (.str env.text), .d (.list 6 (env.list.map JB)), .d (.list 7 (env.fields.map Jh)), .d (.int .i64 x)]), (4, .box [.d (.int .i64 0), .d (.int .i64 0), .d (.int .i64 0), .d (.str []), .d (.nil 6), .d (.nil 7)]), (15, .box [.d (.int .i64 a.kind), .d (.int .i64 a.int), .d (.int .i64 a.scale), .d (.str a.text), .d (.list 6 (a.list.map JB)), .d (.list 7 (a.fields.map Jh))]), (199, .row k 6 (acc.map JB))]⟩) ?_ ?_
 ·refine ⟨_, _, (Wk.JId 17 199 6 rfl rfl dC).trans (Wk.less ?_), 0, [], x1, Nat.zero_le _, rfl, rfl, by rw [← hL]; rfl, rfl⟩;refine zz1 ?_
  first | exact rfl | exact ⟨rfl, rfl⟩ | skip
  try exact rfl
 ·rintro n s ⟨k, acc, x, hk, rfl, hacc, hinv, rfl⟩;by_cases hlt : k < qs.length
  ·have hx := JEF hlt;have hd := dT hlt;have n2 := (Jl qs[k] env (F qs[k] x).1 x (F qs[k] x).2 (hF _ (.inr (Vk hlt)) x)).to trivial;rw [Vq hlt] at hinv;simp only [JCu] at hinv;generalize JF (F qs[k] x).1 (F qs[k] x).2 = w at *;generalize JG (F qs[k] x).1 (F qs[k] x).2 = y at *;rw [JE qs[k], JA w] at n2;refine zz8 ?_;refine ⟨oM, wn n2 ?_⟩;refine zz59 ?_;refine ⟨(by intro x hx; rcases List.mem_singleton.1 hx with rfl; rfl), oM, qs.length - (k + 1), _, oM, Wk.less ?_, k + 1, acc ++ [w], y, oM, rfl, by simp [hacc], by rw [hinv]; simp, rfl⟩;rw [Vw];simp only [go_sem, mC, Jj k oM, Va, Vb, JA w, Nat.reduceAdd, Nat.reduceEqDiff, Nat.reduceBEq, Nat.reduceLeDiff, reduceCtorEq, ↓reduceIte];exact rfl
  ·have hd := dF hlt;obtain rfl : k = qs.length := oM;rw [List.drop_length] at hinv;simp only [JCu, List.append_nil] at hinv;subst hinv;simp only at hR hlr;refine JAl ?_;refine JJ (fun n s => ∃ (j : Nat) (found : Bool) (z : Int), j ≤ acc.length ∧ n = acc.length - j ∧ R = (if found = true then (true, z) else JPa a (acc.drop j) z) ∧
    s = ⟨[(0, .ref 1000 0), (4, .ref 4 0), (15, .ref 15 0), (16, .d (.bool found)), (17, .ms 199 qs.length), (20, .d (.int .i64 j))],
     [(1000, .box [.d (.int .i64 env.kind), .d (.int .i64 env.int), .d (.int .i64 env.scale), .d (.str env.text), .d (.list 6 (env.list.map JB)), .d (.list 7 (env.fields.map Jh)), .d (.int .i64 z)]), (4, .box [.d (.int .i64 0), .d (.int .i64 0), .d (.int .i64 0), .d (.str []), .d (.nil 6), .d (.nil 7)]), (15, .box [.d (.int .i64 a.kind), .d (.int .i64 a.int), .d (.int .i64 a.scale), .d (.str a.text), .d (.list 6 (a.list.map JB)), .d (.list 7 (a.fields.map Jh))]), (199, .row qs.length 6 (acc.map JB))]⟩) ?_ ?_
   ·refine ⟨_, _, Wk.refl _, 0, false, x, Nat.zero_le _, rfl, by rw [← hR]; rfl, rfl⟩
   ·rintro n s ⟨j, found, z, hj, rfl, hRj, rfl⟩;by_cases hjl : j < acc.length
    ·have hd2 : decide ((j : Int) < (acc.length : Int)) = true := sO;have hx := Jy hjl;have c129 := (JGf a acc[j] env z ha (hlr.2 _ (Vk hjl))).to trivial;rw [JA, JA] at c129;refine zz98 ?_;apply ik <;> intro h
     ·simp only [Bool.not_eq_true'] at h;subst h;rw [if_neg Bool.false_ne_true, Vq hjl, JPa] at hRj;simp only [Vv, hx];refine ⟨oM, Nat.le_refl _, wn c129 ?_⟩;refine zz59 ?_;refine ⟨acc.length - (j + 1), _, oM, Wk.less ?_, j + 1, (JBC a acc[j] z).1, (JBC a acc[j] z).2, oM, rfl, hRj, rfl⟩;simp only [go_sem, mC, Jj j oM, Va, Vb, Nat.reduceAdd, Nat.reduceEqDiff, Nat.reduceBEq, Nat.reduceLeDiff, reduceCtorEq, ↓reduceIte];exact rfl
     ·simp only [Bool.not_eq_false'] at h;have hRf : R = (found, z) := by rw [hRj, h]; rfl
      obtain rfl : R = (found, z) := hRf;refine wn c123 ?_;refine ZU ?_
      first | exact rfl | exact ⟨rfl, rfl⟩ | skip
    ·have hd2 : decide ((j : Int) < (acc.length : Int)) = false := sO;obtain rfl : j = acc.length := oM;have hRf : R = (found, z) := by
      rw [hRj, List.drop_length, JPa];cases found <;> rfl
     refine zz98 ?_;obtain rfl : R = (found, z) := hRf;refine wn c123 ?_;refine ZU ?_
     first | exact rfl | exact ⟨rfl, rfl⟩ | skip
theorem ev_slc (htx : JSC) (n : Int) (t : Str) (vs : List Val) (p q r : Exp) (env va vb vc : Val) (y1 y2 y3 : Int) (hp : JT 54 [JL p] env 0 (.d (JB va)) y1) (hq : JT 54 [JL q] env (JG va y1) (.d (JB vb)) y2)
  (hr : JT 54 [JL r] env (JG vb y2) (.d (JB vc)) y3) (hal : (JF va y1).text.length ≤ 17179869184) :
  JT 54 [JL (.mk 21 n t vs [p, q, r])] env 0 (.d (JB (JEn (JF va y1) (JF vb y2) (JF vc y3) (JG vc y3)).1)) (JEn (JF va y1) (JF vb y2) (JF vc y3) (JG vc y3)).2 := by
 refine UD.co (k := false) (JI _ _ _) trivial ?_;have hb : ((0 : Int) != 0) = false := rfl;have c121 := Jo.call trivial;have hl : J2 .i [(.int .i64 8, .fn (.func 172) [] []), (.int .i64 9, .fn (.func 173) [] []), (.int .i64 10, .fn (.func 174) [] []), (.int .i64 11, .fn (.func 175) [] [])] (.int .i64 21) = some none := rfl;rw [XI] at c121;have n1 := (Jl p env va 0 y1 hp).to trivial;have n2 := (Jl q env vb (JG va y1) y2 hq).to trivial;have n3 := (Jl r env vc (JG vb y2) y3 hr).to trivial;have c132 := (JSD htx (JF va y1) (JF vb y2) (JF vc y3) env (JG vc y3) hal).to trivial;generalize JEn (JF va y1) (JF vb y2) (JF vc y3) (JG vc y3) = R at *;generalize JF va y1 = wa at *;generalize JF vb y2 = wb at *;generalize JF vc y3 = wc at *;generalize JG vc y3 = x3 at *;generalize JG vb y2 = x2 at *;generalize JG va y1 = x1 at *;rw [JE];simp only [Exp.op, Exp.int, Exp.text, Exp.value, Exp.args, Va, Vb];rw [JE p] at n1 ⊢;rw [JE q] at n2 ⊢;rw [JE r] at n3 ⊢;rw [JA] at n1 n2 n3;rw [JA wa, JA wb, JA wc, JA R.1] at c132;rw [JA R.1];refine zz5 ?_;refine JC rfl c121 trivial ?_;refine zz6 ?_;refine ⟨rfl, ?_⟩;refine zz9 ?_;refine Y7 ?_;refine Zk ?_;refine JBc ?_;refine JDK ?_;refine JDL ?_;refine JDM ?_;refine JD5 ?_;simp only [go_sem, JN6, Un, Uw, Xb, Int.reduceBEq, Nat.reduceAdd, Nat.reduceEqDiff, Nat.reduceBEq, Nat.reduceLeDiff, reduceCtorEq, ↓reduceIte];refine ⟨sP, wn n1 ?_⟩;refine zz4 ?_;refine ⟨sP, wn n2 ?_⟩;refine zz4 ?_;refine ⟨sP, wn n3 ?_⟩;refine zz4 ?_;refine wn c132 ?_;refine zz4 ?_;exact zf
theorem JPb (n : Int) (t : Str) (vs : List Val) (p : Exp) (env va w : Val) (y1 y : Int) (hp : JT 54 [JL p] env 0 (.d (JB va)) y1) (hu : JT 133 [.int .i64 16, JB (JF va y1)] env (JG va y1) (.d (JB w)) y) :
  JT 54 [JL (.mk 16 n t vs [p])] env 0 (.d (JB w)) y := by
 refine UD.co (k := false) (JI _ _ _) trivial ?_;have hb : ((0 : Int) != 0) = false := rfl;have c121 := Jo.call trivial;have hl : J2 .i [(.int .i64 8, .fn (.func 172) [] []), (.int .i64 9, .fn (.func 173) [] []), (.int .i64 10, .fn (.func 174) [] []), (.int .i64 11, .fn (.func 175) [] [])] (.int .i64 16) = some none := rfl;rw [XI] at c121;have n1 := (Jl p env va 0 y1 hp).to trivial;have c133 := hu.to trivial;generalize JF va y1 = wa at *;generalize JG va y1 = x1 at *;rw [JE];simp only [Exp.op, Exp.int, Exp.text, Exp.value, Exp.args, Va, Vb];rw [JE p] at n1 ⊢;rw [JA] at n1;rw [JA wa, JA w] at c133;rw [JA w];refine zz5 ?_;refine JC rfl c121 trivial ?_;refine zz6 ?_;refine ⟨rfl, ?_⟩;refine zz9 ?_;refine Y7 ?_;refine Zk ?_;refine JBc ?_;refine JDK ?_;refine JDL ?_;refine JDM ?_;refine JD5 ?_;refine JFF ?_;refine JHZ ?_;refine ⟨sP, JC rfl n1 ⟨rfl, trivial⟩ ?_⟩;refine zz4 ?_;refine JC rfl c133 ⟨rfl, trivial⟩ ?_;refine zz4 ?_
 first | exact rfl | exact ⟨rfl, rfl⟩ | exact ⟨rfl, rfl, rfl⟩
theorem JPc (n : Int) (t : Str) (vs : List Val) (p : Exp) (env va w : Val) (y1 y : Int) (hp : JT 54 [JL p] env 0 (.d (JB va)) y1) (hu : JT 133 [.int .i64 18, JB (JF va y1)] env (JG va y1) (.d (JB w)) y) :
  JT 54 [JL (.mk 18 n t vs [p])] env 0 (.d (JB w)) y := by
 refine UD.co (k := false) (JI _ _ _) trivial ?_;have hb : ((0 : Int) != 0) = false := rfl;have c121 := Jo.call trivial;have hl : J2 .i [(.int .i64 8, .fn (.func 172) [] []), (.int .i64 9, .fn (.func 173) [] []), (.int .i64 10, .fn (.func 174) [] []), (.int .i64 11, .fn (.func 175) [] [])] (.int .i64 18) = some none := rfl;rw [XI] at c121;have n1 := (Jl p env va 0 y1 hp).to trivial;have c133 := hu.to trivial;generalize JF va y1 = wa at *;generalize JG va y1 = x1 at *;rw [JE];simp only [Exp.op, Exp.int, Exp.text, Exp.value, Exp.args, Va, Vb];rw [JE p] at n1 ⊢;rw [JA] at n1;rw [JA wa, JA w] at c133;rw [JA w];refine zz5 ?_;refine JC rfl c121 trivial ?_;refine zz6 ?_;refine ⟨rfl, ?_⟩;refine zz9 ?_;refine Y7 ?_;refine Zk ?_;refine JBc ?_;refine JDK ?_;refine JDL ?_;refine JDM ?_;refine JD5 ?_;refine JFF ?_;refine JHZ ?_;refine ⟨sP, JC rfl n1 ⟨rfl, trivial⟩ ?_⟩;refine zz4 ?_;refine JC rfl c133 ⟨rfl, trivial⟩ ?_;refine zz4 ?_
 first | exact rfl | exact ⟨rfl, rfl⟩ | exact ⟨rfl, rfl, rfl⟩
theorem JPd (n : Int) (t : Str) (vs : List Val) (p : Exp) (env va w : Val) (y1 y : Int) (hp : JT 54 [JL p] env 0 (.d (JB va)) y1) (hu : JT 133 [.int .i64 19, JB (JF va y1)] env (JG va y1) (.d (JB w)) y) :
  JT 54 [JL (.mk 19 n t vs [p])] env 0 (.d (JB w)) y := by
 refine UD.co (k := false) (JI _ _ _) trivial ?_;have hb : ((0 : Int) != 0) = false := rfl;have c121 := Jo.call trivial;have hl : J2 .i [(.int .i64 8, .fn (.func 172) [] []), (.int .i64 9, .fn (.func 173) [] []), (.int .i64 10, .fn (.func 174) [] []), (.int .i64 11, .fn (.func 175) [] [])] (.int .i64 19) = some none := rfl;rw [XI] at c121;have n1 := (Jl p env va 0 y1 hp).to trivial;have c133 := hu.to trivial;generalize JF va y1 = wa at *;generalize JG va y1 = x1 at *;rw [JE];simp only [Exp.op, Exp.int, Exp.text, Exp.value, Exp.args, Va, Vb];rw [JE p] at n1 ⊢;rw [JA] at n1;rw [JA wa, JA w] at c133;rw [JA w];refine zz5 ?_;refine JC rfl c121 trivial ?_;refine zz6 ?_;refine ⟨rfl, ?_⟩;refine zz9 ?_;refine Y7 ?_;refine Zk ?_;refine JBc ?_;refine JDK ?_;refine JDL ?_;refine JDM ?_;refine JD5 ?_;refine JFF ?_;refine JHZ ?_;refine ⟨sP, JC rfl n1 ⟨rfl, trivial⟩ ?_⟩;refine zz4 ?_;refine JC rfl c133 ⟨rfl, trivial⟩ ?_;refine zz4 ?_
 first | exact rfl | exact ⟨rfl, rfl⟩ | exact ⟨rfl, rfl, rfl⟩
theorem JPe (n : Int) (t : Str) (vs : List Val) (p : Exp) (env va w : Val) (y1 y : Int) (hp : JT 54 [JL p] env 0 (.d (JB va)) y1) (hu : JT 133 [.int .i64 20, JB (JF va y1)] env (JG va y1) (.d (JB w)) y) :
  JT 54 [JL (.mk 20 n t vs [p])] env 0 (.d (JB w)) y := by
 refine UD.co (k := false) (JI _ _ _) trivial ?_;have hb : ((0 : Int) != 0) = false := rfl;have c121 := Jo.call trivial;have hl : J2 .i [(.int .i64 8, .fn (.func 172) [] []), (.int .i64 9, .fn (.func 173) [] []), (.int .i64 10, .fn (.func 174) [] []), (.int .i64 11, .fn (.func 175) [] [])] (.int .i64 20) = some none := rfl;rw [XI] at c121;have n1 := (Jl p env va 0 y1 hp).to trivial;have c133 := hu.to trivial;generalize JF va y1 = wa at *;generalize JG va y1 = x1 at *;rw [JE];simp only [Exp.op, Exp.int, Exp.text, Exp.value, Exp.args, Va, Vb];rw [JE p] at n1 ⊢;rw [JA] at n1;rw [JA wa, JA w] at c133;rw [JA w];refine zz5 ?_;refine JC rfl c121 trivial ?_;refine zz6 ?_;refine ⟨rfl, ?_⟩;refine zz9 ?_;refine Y7 ?_;refine Zk ?_;refine JBc ?_;refine JDK ?_;refine JDL ?_;refine JDM ?_;refine JD5 ?_;refine JFF ?_;refine JHZ ?_;refine ⟨sP, JC rfl n1 ⟨rfl, trivial⟩ ?_⟩;refine zz4 ?_;refine JC rfl c133 ⟨rfl, trivial⟩ ?_;refine zz4 ?_
 first | exact rfl | exact ⟨rfl, rfl⟩ | exact ⟨rfl, rfl, rfl⟩
theorem JPf (n : Int) (t : Str) (vs : List Val) (p : Exp) (env va w : Val) (y1 y : Int) (hp : JT 54 [JL p] env 0 (.d (JB va)) y1) (hu : JT 133 [.int .i64 27, JB (JF va y1)] env (JG va y1) (.d (JB w)) y) :
  JT 54 [JL (.mk 27 n t vs [p])] env 0 (.d (JB w)) y := by
 refine UD.co (k := false) (JI _ _ _) trivial ?_;have hb : ((0 : Int) != 0) = false := rfl;have c121 := Jo.call trivial;have hl : J2 .i [(.int .i64 8, .fn (.func 172) [] []), (.int .i64 9, .fn (.func 173) [] []), (.int .i64 10, .fn (.func 174) [] []), (.int .i64 11, .fn (.func 175) [] [])] (.int .i64 27) = some none := rfl;rw [XI] at c121;have n1 := (Jl p env va 0 y1 hp).to trivial;have c133 := hu.to trivial;generalize JF va y1 = wa at *;generalize JG va y1 = x1 at *;rw [JE];simp only [Exp.op, Exp.int, Exp.text, Exp.value, Exp.args, Va, Vb];rw [JE p] at n1 ⊢;rw [JA] at n1;rw [JA wa, JA w] at c133;rw [JA w];refine zz5 ?_;refine JC rfl c121 trivial ?_;refine zz6 ?_;refine ⟨rfl, ?_⟩;refine zz9 ?_;refine Y7 ?_;refine Zk ?_;refine JBc ?_;refine JDK ?_;refine JDL ?_;refine JDM ?_;refine JD5 ?_;refine JFF ?_;refine JHZ ?_;refine ⟨sP, JC rfl n1 ⟨rfl, trivial⟩ ?_⟩;refine zz4 ?_;refine JC rfl c133 ⟨rfl, trivial⟩ ?_;refine zz4 ?_
 first | exact rfl | exact ⟨rfl, rfl⟩ | exact ⟨rfl, rfl, rfl⟩
theorem JPg (n : Int) (t : Str) (vs : List Val) (p : Exp) (env va w : Val) (y1 y : Int) (hp : JT 54 [JL p] env 0 (.d (JB va)) y1) (hu : JT 133 [.int .i64 28, JB (JF va y1)] env (JG va y1) (.d (JB w)) y) :
  JT 54 [JL (.mk 28 n t vs [p])] env 0 (.d (JB w)) y := by
 refine UD.co (k := false) (JI _ _ _) trivial ?_;have hb : ((0 : Int) != 0) = false := rfl;have c121 := Jo.call trivial;have hl : J2 .i [(.int .i64 8, .fn (.func 172) [] []), (.int .i64 9, .fn (.func 173) [] []), (.int .i64 10, .fn (.func 174) [] []), (.int .i64 11, .fn (.func 175) [] [])] (.int .i64 28) = some none := rfl;rw [XI] at c121;have n1 := (Jl p env va 0 y1 hp).to trivial;have c133 := hu.to trivial;generalize JF va y1 = wa at *;generalize JG va y1 = x1 at *;rw [JE];simp only [Exp.op, Exp.int, Exp.text, Exp.value, Exp.args, Va, Vb];rw [JE p] at n1 ⊢;rw [JA] at n1;rw [JA wa, JA w] at c133;rw [JA w];refine zz5 ?_;refine JC rfl c121 trivial ?_;refine zz6 ?_;refine ⟨rfl, ?_⟩;refine zz9 ?_;refine Y7 ?_;refine Zk ?_;refine JBc ?_;refine JDK ?_;refine JDL ?_;refine JDM ?_;refine JD5 ?_;refine JFF ?_;refine JHZ ?_;refine ⟨sP, JC rfl n1 ⟨rfl, trivial⟩ ?_⟩;refine zz4 ?_;refine JC rfl c133 ⟨rfl, trivial⟩ ?_;refine zz4 ?_
 first | exact rfl | exact ⟨rfl, rfl⟩ | exact ⟨rfl, rfl, rfl⟩
theorem JSa (p : Part) : PT 231 [Jr p] (.d (.bool (p.kind == 3))) := by
 refine ok231.pc ?_;simp only [Jr];simp only [go_sem, ir231, simprocAttr]
theorem JSb (l : List Part) (hl : l.length ≤ 68719476736) : PT 179 [.list 3 (l.map Jr)] (.d (.bool (evP l))) := by
 refine ok179.pc ?_;have hc := (JKq JSa l hl).call trivial;simp only [go_sem, ir179, simprocAttr];refine wn hc ?_;simp only [go_sem, evP, simprocAttr]
theorem JAp (t : Str) : CT 179 [.d (.list 3 ((JH t).1.map Jr))] [] (.d (.bool (evP (JH t).1))) [] := (JSb _ (by have := ZJ t; omega)).call trivial
theorem cv_ok {l : List Val} (h : cvE l = 0) : ∃ v, l = [v] ∧ v.list = [] ∧ v.fields = [] ∧ v.text.length ≤ 1024 := by
 match l, h with
 | [], h => cases h
 | _ :: _ :: _, h => cases h
 | [v], h =>
  refine ⟨v, rfl, ?_⟩;have h : (if JDO v != 0 then JDO v else if !JB1 v.kind then (18 : Int) else 0) = 0 := h;split at h
  ·rename_i h1;rw [h] at h1; cases h1
  rename_i hc;split at h
  ·cases h
  rename_i hk;have hc : JDO v = 0 := sX hc;simp only [Bool.not_eq_true', JB1, Bool.and_eq_false_iff, decide_eq_false_iff_not, not_or, Classical.not_not, ge_iff_le] at hk;unfold JDO at hc;simp only [YB] at hc;split at hc
  ·rename_i h1; exact absurd hc h1
  rename_i h1;simp only [ne_eq, Decidable.not_not] at h1;unfold YL at h1;split at h1
  ·cases h1
  split at h1
  ·cases h1
  split at h1
  ·cases h1
  split at h1
  ·cases h1
  split at h1
  ·cases h1
  rename_i hu;simp only [Bool.not_eq_true', Bool.not_eq_false] at hu;simp only [JKg, useN, JRV, JRW, Vi, Vx, beq_iff_eq] at hu;obtain ⟨⟨⟨⟨_, _⟩, ht⟩, hl⟩, hf⟩ := hu;have l0 : v.list = [] := List.length_eq_zero_iff.1 (by rcases hl with hl | hl <;> omega);have f0 : v.fields = [] := List.length_eq_zero_iff.1 (by rcases hf with hf | hf <;> omega);refine ⟨l0, f0, ?_⟩;by_cases k4 : v.kind = 4
  ·have e4 : Ux v = JEf v := by simp [Ux, k4]
   rw [e4] at h1;have hs : szE v.text.length 1024 5 = 0 := by
    unfold JEf at h1;split at h1
    ·cases h1
    ·exact h1
   unfold szE at hs;split at hs
   ·cases hs
   ·rename_i h2;simp only [decide_eq_true_eq] at h2;omega
  by_cases k5 : v.kind = 5
  ·have e5 : Ux v = szE v.text.length 1024 5 := by simp [Ux, k5]
   rw [e5] at h1;unfold szE at h1;split at h1
   ·cases h1
   ·rename_i h2;simp only [decide_eq_true_eq] at h2;omega
  ·have : v.text = [] := by
    rcases ht with ((ht | ht) | ht) | ht
    ·exact absurd ht k4
    ·exact absurd ht k5
    ·omega
    ·exact ht
   rw [this]; simp
theorem JPh {e : Exp} (h : JEh e = 0) : 1 ≤ e.op ∧ e.op ≤ 28 ∧ (JY e.op).1 ≤ (e.args.length : Int) ∧ (e.op ≠ 25 → (e.args.length : Int) ≤ (JY e.op).2) ∧ (e.op = 1 → cvE e.value = 0) ∧ (Zb e.op = true → (JH e.text).2 = 0) := by
 unfold JEh at h;split at h
 ·cases h
 rename_i h1;split at h
 ·cases h
 split at h
 ·cases h
 rename_i h2;split at h
 ·cases h
 rename_i h3;split at h
 ·cases h
 rename_i h4;simp only [Vx, decide_eq_true_eq, not_or, Int.not_lt, gt_iff_lt] at h1;simp only [decide_eq_true_eq, Int.not_lt] at h3;have ha : e.op ≠ 25 → (e.args.length : Int) ≤ (JY e.op).2 := by
  intro h25;simp only [Vi, decide_eq_true_eq, bne_iff_ne, ne_eq, not_and, Classical.not_not, gt_iff_lt] at h4;by_cases hlt : (JY e.op).2 < (e.args.length : Int)
  ·exact absurd (h4 hlt) h25
  ·omega
 refine ⟨oM, oM, h3, ha, ?_, ?_⟩
 ·intro h5;rw [if_pos (by simp [h5])] at h;exact h
 ·intro hp;split at h
  ·rename_i h5;simp only [beq_iff_eq] at h5;rw [h5] at hp; cases hp
  split at h
  ·rename_i h6;simp only [hp, Vt, bne_iff_ne, ne_eq] at h6;exact absurd h h6
  ·rename_i h6;simpa [hp] using h6
theorem JE1 {s : Str} (h : (JH s).2 = 0) : s.length ≤ 200 := by
 unfold JH at h;split at h
 ·cases h
 split at h
 ·cases h
 ·rename_i h2;omega
end Go.Proofs
namespace Go.Proofs
open Go Av
variable {v : Val} {B : Nat} {l : List Exp}
mutual
def okT : Val → Prop
 | .mk _ _ _ t l f => t.length ≤ 4096 ∧ JLw l ∧ JLx f
def JLw : List Val → Prop
 | [] => True
 | v :: r => okT v ∧ JLw r
def JLx : List Fld → Prop
 | [] => True
 | .mk n v :: r => n.length ≤ 4096 ∧ okT v ∧ JLx r
end
theorem JPi (v : Val) : okT v ↔ v.text.length ≤ 4096 ∧ JLw v.list ∧ JLx v.fields := by cases v; rfl
theorem JE2 : ∀ {l : List Val}, JLw l → ∀ x ∈ l, okT x
 | v :: r, h, x, hx => by
  rcases VA.1 hx with rfl | hx
  ·exact h.1
  ·exact JE2 h.2 x hx
theorem JIV : ∀ {l : List Fld}, JLx l → ∀ x ∈ l, okT x.value
 | .mk n v :: r, h, x, hx => by
  rcases VA.1 hx with rfl | hx
  ·exact h.2.1
  ·exact JIV h.2.2 x hx
mutual
def nmV : Val → Prop
 | .mk _ _ _ _ l f => JJn l ∧ JE3 f
def JJn : List Val → Prop
 | [] => True
 | v :: r => nmV v ∧ JJn r
def JE3 : List Fld → Prop
 | [] => True
 | .mk n v :: r => n.length ≤ 4096 ∧ nmV v ∧ JE3 r
end
theorem JBK (v : Val) : nmV v ↔ JJn v.list ∧ JE3 v.fields := by cases v; rfl
mutual
theorem JIW : ∀ v : Val, okT v → nmV v
 | .mk _ _ _ _ l f, h => ⟨JPj l h.2.1, JPk f h.2.2⟩
theorem JPj : ∀ l : List Val, JLw l → JJn l
 | [], _ => trivial
 | v :: r, h => ⟨JIW v h.1, JPj r h.2⟩
theorem JPk : ∀ l : List Fld, JLx l → JE3 l
 | [], _ => trivial
 | .mk _ v :: r, h => ⟨h.1, JIW v h.2.1, JPk r h.2.2⟩
end
theorem JGw : ∀ {l : List Val}, (∀ x ∈ l, nmV x) → JJn l
 | [], _ => trivial
 | v :: r, h => ⟨h v Vh, JGw fun x hx => h x (Vn _ hx)⟩
theorem XR (h1 : v.list = [] ∧ v.fields = []) : nmV v := by
 rw [JBK, h1.1, h1.2];exact ⟨trivial, trivial⟩
theorem JSc (p : Part) (v : Val) (h : okT v) : ∀ x ∈ Zm p v, okT x := by
 obtain ⟨_, hl, hf⟩ := (JPi v).1 h;unfold Zm;split
 ·split
  ·rename_i h;have hbd := JCe (q := fun f => f.name == p.name) (l := v.fields);change -1 ≤ ixN p.name v.fields ∧ ixN p.name v.fields < v.fields.length at hbd;have hk : (ixN p.name v.fields).toNat < v.fields.length := oM;rw [Vl hk];intro x hx;simp only [Vj, Vp, List.mem_singleton] at hx;rw [hx];exact JIV hf _ (Vk hk)
  ·intro x hx; cases hx
 split
 ·exact JE2 hl
 split
 ·intro x hx;exact JE2 hl x (List.mem_of_mem_drop (List.mem_of_mem_take hx))
 ·intro x hx; cases hx
theorem JIX : ∀ (l : List Part) {now out : List Val}, Yj l now = some out → (∀ x ∈ now, okT x) → ∀ x ∈ out, okT x
 | [], now, out, h, hn => by cases h; exact hn
 | p :: r, now, out, h, hn => by
  simp only [Yj] at h;split at h
  ·refine JIX r h ?_;intro x hx;obtain ⟨y, hy, hx⟩ := List.mem_flatMap.1 hx;exact JSc p y (hn y hy) x hx
  ·cases h
theorem JPl (v : Val) (l : List Part) (h : okT v) : ∀ x ∈ (XM v l).1, okT x := by
 unfold XM;split
 ·intro x hx; cases hx
 ·cases e : Yj l [v] with
  | none => intro x hx; cases hx
  | some now =>
   have := JIX l e (by intro x hx; rcases List.mem_singleton.1 hx with rfl; exact h);simp only [JBx];split
   ·intro x hx; cases hx
   ·exact this
theorem JSd (v : Val) (l : List Part) (h : okT v) (hz : szV v ≤ 1000) : szV (ZK v l).1 ≤ 1001 ∧ (ZK v l).1.text.length ≤ 4096 ∧ nmV (ZK v l).1 := by
 have hs := JLi v l;have ht := JPl v l h;unfold ZK;split
 ·exact ⟨by show szV zeroV ≤ _; decide, Nat.zero_le _, XR ⟨rfl, rfl⟩⟩
 split
 ·refine ⟨?_, Nat.zero_le _, JGw fun x hx => JIW x (ht x hx), trivial⟩;simp only [szV, Xa];omega
 ·cases e : (XM v l).1[0]? with
  | none => exact ⟨by show szV zeroV ≤ _; decide, Nat.zero_le _, XR ⟨rfl, rfl⟩⟩
  | some x =>
   have hx : x ∈ (XM v l).1 := List.mem_of_getElem? e;have h1 := ZG hx;have h2 := ((JPi x).1 (ht x hx)).1;simp only [Vp];exact ⟨oM, h2, JIW x (ht x hx)⟩
theorem Yt {w : Val} (h : JEz w) : szV w ≤ 1000000 := by
 rw [JBB, h.1, h.2];simp [UH, Xa]
theorem JLy : JEz zeroV := ⟨rfl, rfl⟩
theorem JF1 (b : Bool) : JEz (UV b) ∧ (UV b).text = [] := by cases b <;> exact ⟨⟨rfl, rfl⟩, rfl⟩
def XN (B : Nat) (v : Val) : Prop := szV v ≤ 1000000 ∧ v.text.length ≤ B ∧ nmV v
theorem XN.flat (h : JEz v) (ht : v.text = []) : XN B v := ⟨Yt h, by rw [ht]; exact Nat.zero_le _, XR h⟩
theorem JCB (B : Nat) (wh : Bool) (n : Int × Int) (er : Int) : XN B (ZZ wh n er) := XN.flat (JF0 wh n er).1 (JF0 wh n er).2
theorem Je (B : Nat) : XN B zeroV := XN.flat JLy rfl
theorem UR (B : Nat) (b : Bool) : XN B (UV b) := XN.flat (JF1 b).1 (JF1 b).2
theorem Ub (h : XN B v) (y : Int) : XN B (JF v y) := by
 unfold JF;split
 ·exact Je B
 ·exact h
theorem JAg {C : Nat} (h : XN B v) (hb : B ≤ C) : XN C v := ⟨h.1, Nat.le_trans h.2.1 hb, h.2.2⟩
theorem JAh (h : XN B v) : okV v := JEV v (by have := h.1; omega)
theorem JCC (B : Nat) (op sc : Int) (a b : Val) (x : Int) : XN B (Zn op sc a b x).1 := by
 unfold Zn;split
 ·exact Je B
 split
 ·exact Je B
 ·exact JCB B _ _ _
theorem JPm (hB : 1024 ≤ B) (a b : Val) (x : Int) : XN B (JGg a b x).1 := by
 unfold JGg;split
 ·exact Je B
 split
 ·exact Je B
 split
 ·exact Je B
 ·rename_i h;simp only [decide_eq_true_eq] at h;refine ⟨Yt ⟨rfl, rfl⟩, ?_, XR ⟨rfl, rfl⟩⟩;show (a.text ++ b.text).length ≤ B;rw [Vg];omega
theorem JPn (B : Nat) (e : Exp) (env : Val) (x : Int) : XN B (JGo e env x).1 := by
 unfold JGo;simp only;split
 ·exact Je B
 split
 ·exact Je B
 split
 ·exact Je B
 split
 ·exact JCB B _ _ _
 split
 ·exact Je B
 ·exact JCB B _ _ _
theorem JIY {f : Int → Exp → Int × Int} : ∀ (l : List Exp) (n : Int), (Yr f n l).1 = 0 → ∀ p ∈ l, ∃ m, (f m p).1 = 0
 | v :: r, n, h, p, hp => by
  obtain ⟨h1, h2⟩ := JJa h;rcases VA.1 hp with rfl | hp
  ·exact ⟨n, h1⟩
  ·exact JIY r _ (by rw [← h2]; exact h) p hp
theorem JJo (h : l.length = 1) : ∃ p, l = [p] := by
 match l, h with
 | [p], _ => exact ⟨p, rfl⟩
theorem JCD (h : l.length = 2) : ∃ p q, l = [p, q] := by
 match l, h with
 | [p, q], _ => exact ⟨p, q, rfl⟩
theorem len3 (h : l.length = 3) : ∃ p q r, l = [p, q, r] := by
 match l, h with
 | [p, q, r], _ => exact ⟨p, q, r, rfl⟩
theorem evl_ex (htx : JSC) (hsf : JLs) (env : Val) (hz : szV env ≤ 1000) (hT : okT env) : ∀ (k : Nat) (n : Int) (e : Exp), k ≤ 8 → (eF k n e).1 = 0 → ∀ x, ∃ v y, JT 54 [JL e] env x (.d (JB v)) y ∧ XN (4096 * 4 ^ k) v := by
 intro k
 induction k with
 | zero => intro n e _ h; exact absurd h (JR3 n e)
 | succ k ih =>
  intro n e hk h x;by_cases hx : x ≠ 0
  ·exact ⟨zeroV, x, ev_x e env x hx, Je _⟩
  have hx : x = 0 := sX hx;subst hx;have hF := JR2 h;have h1 : JEh e = 0 := by
   simp only [eF] at h;split at h
   ·cases h
   split at h
   ·rename_i h1; exact absurd h h1
   ·rename_i h1; simpa using h1
  rw [hF] at h;have hch := JIY e.args (n + 1) h;have IH : ∀ p ∈ e.args, ∀ x, ∃ v y, JT 54 [JL p] env x (.d (JB v)) y ∧ XN (4096 * 4 ^ k) v := by
   intro p hp x;obtain ⟨m, hm⟩ := hch p hp;exact ih m p oM hm x
  have hpow : 4096 * 4 ^ (k + 1) = 4 * (4096 * 4 ^ k) := by rw [Nat.pow_succ]; omega
  have hB0 : 4096 ≤ 4096 * 4 ^ k := Nat.le_mul_of_pos_right _ (Nat.pow_pos dC);have hB1 : 4096 * 4 ^ k ≤ 17179869184 := by
   have : 4 ^ k ≤ 4 ^ 8 := Nat.pow_le_pow_right dC oM;have e8 : (4 : Nat) ^ 8 = 65536 := dC;omega
  generalize 4096 * 4 ^ k = B at *;rw [hpow];obtain ⟨o1, o2, o3, o4, o5, o6⟩ := JPh h1;obtain ⟨op, i, t, vs, es⟩ := e;simp only [Exp.op, Exp.int, Exp.text, Exp.value, Exp.args] at *;have hop : op = 1 ∨ op = 2 ∨ op = 3 ∨ op = 4 ∨ op = 5 ∨ op = 6 ∨ op = 7 ∨ op = 8 ∨ op = 9 ∨ op = 10 ∨ op = 11 ∨ op = 12 ∨ op = 13 ∨ op = 14 ∨ op = 15 ∨ op = 16 ∨ op = 17 ∨ op = 18 ∨ op = 19 ∨ op = 20 ∨ op = 21 ∨ op = 22 ∨ op = 23 ∨ op = 24 ∨ op = 25 ∨ op = 26 ∨ op = 27 ∨ op = 28 := oM;rcases hop with rfl | rfl | rfl | rfl | rfl | rfl | rfl | rfl | rfl | rfl | rfl | rfl | rfl | rfl | rfl | rfl | rfl | rfl | rfl | rfl | rfl | rfl | rfl | rfl | rfl | rfl | rfl | rfl
  ·obtain ⟨v, rfl, l0, f0, ht⟩ := cv_ok (o5 rfl);have hf : JEz v := ⟨l0, f0⟩;refine ⟨v, 0, ev_1 i t v [] es (JEV v (by have := Yt hf; omega)) env, Yt hf, oM, XR hf⟩
  ·have hpl := JE1 (o6 rfl);refine ⟨(JE0 t env 0).1, (JE0 t env 0).2, JSZ i t vs es env oM oM (JAp t), ?_⟩;unfold JE0;split
   ·exact Je _
   ·obtain ⟨g1, g2, g3⟩ := JSd env (JH t).1 hT hz;exact ⟨by show szV (ZK env (JH t).1).1 ≤ _; omega, by show (ZK env (JH t).1).1.text.length ≤ _; omega, g3⟩
  ·have ha : es.length = 1 := by have h1 := o3; have h2 := o4 dC; simp [JY] at h1 h2; omega
   obtain ⟨p, rfl⟩ := JJo ha;obtain ⟨va, y1, hp, ga⟩ := IH p sP 0;exact ⟨_, _, ev_not i t vs p env va y1 hp, UR _ _⟩
  ·have ha : es.length = 2 := by have h1 := o3; have h2 := o4 dC; simp [JY] at h1 h2; omega
   obtain ⟨p, q, rfl⟩ := JCD ha;obtain ⟨va, y1, hp, ga⟩ := IH p sP 0;cases hc : ZH va y1 with
   | true =>
    obtain ⟨vb, y2, hq, gb⟩ := IH q sP (YK va y1);exact ⟨_, _, JPX i t vs p q env va y1 vb y2 hp hq hc, UR _ _⟩
   | false => exact ⟨_, _, JPY i t vs p q env va y1 hp hc, UR _ _⟩
  ·have ha : es.length = 2 := by have h1 := o3; have h2 := o4 dC; simp [JY] at h1 h2; omega
   obtain ⟨p, q, rfl⟩ := JCD ha;obtain ⟨va, y1, hp, ga⟩ := IH p sP 0;cases hc : ZH va y1 with
   | false =>
    obtain ⟨vb, y2, hq, gb⟩ := IH q sP (YK va y1);exact ⟨_, _, JSV i t vs p q env va y1 vb y2 hp hq hc, UR _ _⟩
   | true => exact ⟨_, _, JSW i t vs p q env va y1 hp hc, UR _ _⟩
  ·have ha : es.length = 2 := by have h1 := o3; have h2 := o4 dC; simp [JY] at h1 h2; omega
   obtain ⟨p, q, rfl⟩ := JCD ha;obtain ⟨va, y1, hp, ga⟩ := IH p sP 0;obtain ⟨vb, y2, hq, gb⟩ := IH q sP (JG va y1);exact ⟨_, _, ev_eq i t vs p q env va vb y1 y2 hp hq (JAh (Ub ga y1)) (JAh (Ub gb y2)), UR _ _⟩
  ·have ha : es.length = 2 := by have h1 := o3; have h2 := o4 dC; simp [JY] at h1 h2; omega
   obtain ⟨p, q, rfl⟩ := JCD ha;obtain ⟨va, y1, hp, ga⟩ := IH p sP 0;obtain ⟨vb, y2, hq, gb⟩ := IH q sP (JG va y1);exact ⟨_, _, ev_ne i t vs p q env va vb y1 y2 hp hq (JAh (Ub ga y1)) (JAh (Ub gb y2)), UR _ _⟩
  ·have ha : es.length = 2 := by have h1 := o3; have h2 := o4 dC; simp [JY] at h1 h2; omega
   obtain ⟨p, q, rfl⟩ := JCD ha;obtain ⟨va, y1, hp, ga⟩ := IH p sP 0;obtain ⟨vb, y2, hq, gb⟩ := IH q sP (JG va y1);exact ⟨_, _, ev_R8 i t vs p q env va vb y1 y2 hp hq, UR _ _⟩
  ·have ha : es.length = 2 := by have h1 := o3; have h2 := o4 dC; simp [JY] at h1 h2; omega
   obtain ⟨p, q, rfl⟩ := JCD ha;obtain ⟨va, y1, hp, ga⟩ := IH p sP 0;obtain ⟨vb, y2, hq, gb⟩ := IH q sP (JG va y1);exact ⟨_, _, ev_R9 i t vs p q env va vb y1 y2 hp hq, UR _ _⟩
  ·have ha : es.length = 2 := by have h1 := o3; have h2 := o4 dC; simp [JY] at h1 h2; omega
   obtain ⟨p, q, rfl⟩ := JCD ha;obtain ⟨va, y1, hp, ga⟩ := IH p sP 0;obtain ⟨vb, y2, hq, gb⟩ := IH q sP (JG va y1);exact ⟨_, _, ev_R10 i t vs p q env va vb y1 y2 hp hq, UR _ _⟩
  ·have ha : es.length = 2 := by have h1 := o3; have h2 := o4 dC; simp [JY] at h1 h2; omega
   obtain ⟨p, q, rfl⟩ := JCD ha;obtain ⟨va, y1, hp, ga⟩ := IH p sP 0;obtain ⟨vb, y2, hq, gb⟩ := IH q sP (JG va y1);exact ⟨_, _, ev_R11 i t vs p q env va vb y1 y2 hp hq, UR _ _⟩
  ·have ha : es.length = 2 := by have h1 := o3; have h2 := o4 dC; simp [JY] at h1 h2; omega
   obtain ⟨p, q, rfl⟩ := JCD ha;obtain ⟨va, y1, hp, ga⟩ := IH p sP 0;obtain ⟨vb, y2, hq, gb⟩ := IH q sP (JG va y1);exact ⟨_, _, ev_A12 i t vs p q env va vb y1 y2 hp hq, JCC _ _ _ _ _ _⟩
  ·have ha : es.length = 2 := by have h1 := o3; have h2 := o4 dC; simp [JY] at h1 h2; omega
   obtain ⟨p, q, rfl⟩ := JCD ha;obtain ⟨va, y1, hp, ga⟩ := IH p sP 0;obtain ⟨vb, y2, hq, gb⟩ := IH q sP (JG va y1);exact ⟨_, _, ev_A13 i t vs p q env va vb y1 y2 hp hq, JCC _ _ _ _ _ _⟩
  ·have ha : es.length = 2 := by have h1 := o3; have h2 := o4 dC; simp [JY] at h1 h2; omega
   obtain ⟨p, q, rfl⟩ := JCD ha;obtain ⟨va, y1, hp, ga⟩ := IH p sP 0;obtain ⟨vb, y2, hq, gb⟩ := IH q sP (JG va y1);exact ⟨_, _, ev_A14 i t vs p q env va vb y1 y2 hp hq, JCC _ _ _ _ _ _⟩
  ·have ha : es.length = 2 := by have h1 := o3; have h2 := o4 dC; simp [JY] at h1 h2; omega
   obtain ⟨p, q, rfl⟩ := JCD ha;obtain ⟨va, y1, hp, ga⟩ := IH p sP 0;obtain ⟨vb, y2, hq, gb⟩ := IH q sP (JG va y1);exact ⟨_, _, ev_A15 i t vs p q env va vb y1 y2 hp hq, JCC _ _ _ _ _ _⟩
  ·have ha : es.length = 1 := by have h1 := o3; have h2 := o4 dC; simp [JY] at h1 h2; omega
   obtain ⟨p, rfl⟩ := JJo ha;obtain ⟨va, y1, hp, ga⟩ := IH p sP 0;by_cases hy : JG va y1 = 0
   ·have gn := Ub ga y1;refine ⟨_, _, JPb i t vs p env va _ y1 _ hp (by rw [hy]; exact un_16 (JF va y1) env), ?_⟩;unfold JPW;split
    ·exact Je _
    ·exact JCB _ _ _ _
   ·exact ⟨_, _, JPb i t vs p env va zeroV y1 (JG va y1) hp (JLt 16 _ env _ hy), Je _⟩
  ·have ha : es.length = 2 := by have h1 := o3; have h2 := o4 dC; simp [JY] at h1 h2; omega
   obtain ⟨p, q, rfl⟩ := JCD ha;obtain ⟨va, y1, hp, ga⟩ := IH p sP 0;obtain ⟨vb, y2, hq, gb⟩ := IH q sP (JG va y1);exact ⟨_, _, ev_cat i t vs p q env va vb y1 y2 hp hq, JPm oM _ _ _⟩
  ·have ha : es.length = 1 := by have h1 := o3; have h2 := o4 dC; simp [JY] at h1 h2; omega
   obtain ⟨p, rfl⟩ := JJo ha;obtain ⟨va, y1, hp, ga⟩ := IH p sP 0;by_cases hy : JG va y1 = 0
   ·have gn := Ub ga y1;refine ⟨_, _, JPc i t vs p env va _ y1 _ hp (by rw [hy]; exact un_18 (JF va y1) env), ?_⟩;unfold JPV;split
    ·exact XN.flat ⟨rfl, rfl⟩ rfl
    split
    ·exact XN.flat ⟨rfl, rfl⟩ rfl
    ·exact Je _
   ·exact ⟨_, _, JPc i t vs p env va zeroV y1 (JG va y1) hp (JLt 18 _ env _ hy), Je _⟩
  ·have ha : es.length = 1 := by have h1 := o3; have h2 := o4 dC; simp [JY] at h1 h2; omega
   obtain ⟨p, rfl⟩ := JJo ha;obtain ⟨va, y1, hp, ga⟩ := IH p sP 0;by_cases hy : JG va y1 = 0
   ·have gn := Ub ga y1;refine ⟨_, _, JPd i t vs p env va _ y1 _ hp (by rw [hy]; exact un_19 hsf (JF va y1) env), ?_⟩;unfold JFQ;split
    ·exact Je _
    ·refine ⟨Yt ⟨rfl, rfl⟩, ?_, XR ⟨rfl, rfl⟩⟩;have e1 : (Ug (JF va y1).text 65 32).length = (JF va y1).text.length := Vc ..;have e2 : (Ug (JF va y1).text 97 (-32)).length = (JF va y1).text.length := Vc ..;have := gn.2;show (if ((19 : Int) == 19) = true then Ug (JF va y1).text 65 32 else Ug (JF va y1).text 97 (-32)).length ≤ _;split <;> omega
   ·exact ⟨_, _, JPd i t vs p env va zeroV y1 (JG va y1) hp (JLt 19 _ env _ hy), Je _⟩
  ·have ha : es.length = 1 := by have h1 := o3; have h2 := o4 dC; simp [JY] at h1 h2; omega
   obtain ⟨p, rfl⟩ := JJo ha;obtain ⟨va, y1, hp, ga⟩ := IH p sP 0;by_cases hy : JG va y1 = 0
   ·have gn := Ub ga y1;refine ⟨_, _, JPe i t vs p env va _ y1 _ hp (by rw [hy]; exact un_20 hsf (JF va y1) env), ?_⟩;unfold JFQ;split
    ·exact Je _
    ·refine ⟨Yt ⟨rfl, rfl⟩, ?_, XR ⟨rfl, rfl⟩⟩;have e1 : (Ug (JF va y1).text 65 32).length = (JF va y1).text.length := Vc ..;have e2 : (Ug (JF va y1).text 97 (-32)).length = (JF va y1).text.length := Vc ..;have := gn.2;show (if ((20 : Int) == 19) = true then Ug (JF va y1).text 65 32 else Ug (JF va y1).text 97 (-32)).length ≤ _;split <;> omega
   ·exact ⟨_, _, JPe i t vs p env va zeroV y1 (JG va y1) hp (JLt 20 _ env _ hy), Je _⟩
  ·have ha : es.length = 3 := by have h1 := o3; have h2 := o4 dC; simp [JY] at h1 h2; omega
   obtain ⟨p, q, r, rfl⟩ := len3 ha;obtain ⟨va, y1, hp, ga⟩ := IH p sP 0;obtain ⟨vb, y2, hq, gb⟩ := IH q sP (JG va y1);obtain ⟨vc, y3, hr, gc⟩ := IH r sP (JG vb y2);have gn := Ub ga y1;have hl := JOg (JF va y1) (JF vb y2) (JF vc y3) (JG vc y3);exact ⟨_, _, ev_slc htx i t vs p q r env va vb vc y1 y2 y3 hp hq hr (by have := gn.2; omega), Yt hl.2, by have := gn.2; have := hl.1; omega, XR hl.2⟩
  ·have hpl := JE1 (o6 rfl);refine ⟨(JJm t env 0).1, (JJm t env 0).2, ev_has i t vs es env oM oM (JAp t), ?_⟩;unfold JJm;split
   ·exact Je _
   ·exact UR _ _
  ·have ha : es.length = 2 := by have h1 := o3; have h2 := o4 dC; simp [JY] at h1 h2; omega
   obtain ⟨p, q, rfl⟩ := JCD ha;obtain ⟨va, y1, hp, ga⟩ := IH p sP 0;cases hc : JPZ va y1 with
   | true => exact ⟨_, _, JLu i t vs p q env va y1 hp hc, JAg ga oM⟩
   | false =>
    obtain ⟨vb, y2, hq, gb⟩ := IH q sP y1;exact ⟨_, _, JLv i t vs p q env va vb y1 y2 hp hq hc, JAg gb oM⟩
  ·have ha : es.length = 3 := by have h1 := o3; have h2 := o4 dC; simp [JY] at h1 h2; omega
   obtain ⟨p, q, r, rfl⟩ := len3 ha;obtain ⟨va, y1, hp, ga⟩ := IH p sP 0;cases hc : ZH va y1 with
   | true =>
    obtain ⟨vb, y2, hq, gb⟩ := IH q sP (YK va y1);exact ⟨_, _, JSX i t vs p q r env va vb y1 y2 hp hq hc, JAg gb oM⟩
   | false =>
    obtain ⟨vb, y2, hq, gb⟩ := IH r sP (YK va y1);exact ⟨_, _, JSY i t vs p q r env va vb y1 y2 hp hq hc, JAg gb oM⟩
  ·have ha : 2 ≤ es.length := by have h1 := o3; simp [JY] at h1; omega
   obtain ⟨p, qs, rfl⟩ : ∃ p qs, es = p :: qs := by
    match es, ha with
    | p :: qs, _ => exact ⟨p, qs, rfl⟩
   have hcl : ∀ (q : Exp) (x : Int), ∃ r : Val × Int, (q ∈ p :: qs → JT 54 [JL q] env x (.d (JB r.1)) r.2) ∧ XN B r.1 := by
    intro q x;by_cases hq : q ∈ p :: qs
    ·obtain ⟨v, y, h, g⟩ := IH q hq x;exact ⟨(v, y), fun _ => h, g⟩
    ·exact ⟨(zeroV, 0), fun h => absurd h hq, Je B⟩
   refine ⟨UV (inR (fun q x => Classical.choose (hcl q x)) p qs).1, (inR (fun q x => Classical.choose (hcl q x)) p qs).2, ?_, UR _ _⟩;refine Con.Ju UD.has fun hfit => ?_
   have hl := (JJY (hfit (JL (.mk 25 i t vs (p :: qs))) sP)).2.2.1;simp only [Exp.args, Vf] at hl;refine ev_in i t vs p qs env _ (fun e he x => (Classical.choose_spec (hcl e x)).1 ?_) (fun e x => JAh (Ub (Classical.choose_spec (hcl e x)).2 _)) oM;rcases he with rfl | he
   ·exact Vh
   ·exact Vn _ he
  ·have hpl := JE1 (o6 rfl);exact ⟨_, _, ev_sum i t vs es env oM oM (JAp t), JPn _ _ _ _⟩
  ·have ha : es.length = 1 := by have h1 := o3; have h2 := o4 dC; simp [JY] at h1 h2; omega
   obtain ⟨p, rfl⟩ := JJo ha;obtain ⟨va, y1, hp, ga⟩ := IH p sP 0;by_cases hy : JG va y1 = 0
   ·have gn := Ub ga y1;obtain ⟨w, y, hw, hfl, hwl⟩ := un_27 JKl (JF va y1) env;exact ⟨w, y, JPf i t vs p env va w y1 y hp (by rw [hy]; exact hw), Yt hfl, by have := gn.2; omega, XR hfl⟩
   ·exact ⟨_, _, JPf i t vs p env va zeroV y1 (JG va y1) hp (JLt 27 _ env _ hy), Je _⟩
  ·have ha : es.length = 1 := by have h1 := o3; have h2 := o4 dC; simp [JY] at h1 h2; omega
   obtain ⟨p, rfl⟩ := JJo ha;obtain ⟨va, y1, hp, ga⟩ := IH p sP 0;by_cases hy : JG va y1 = 0
   ·have gn := Ub ga y1;refine ⟨_, _, JPg i t vs p env va _ y1 _ hp (by rw [hy]; exact un_28 JKl (JF va y1) env), ?_⟩;unfold JH4;split
    ·exact Je _
    split
    ·exact Je _
    ·exact XN.flat ⟨rfl, rfl⟩ rfl
   ·exact ⟨_, _, JPg i t vs p env va zeroV y1 (JG va y1) hp (JLt 28 _ env _ hy), Je _⟩
end Go.Proofs
namespace Go.Proofs
open Go Av
theorem JAK : ∀ {l : List Val}, JJn l → ∀ x ∈ l, nmV x
 | v :: r, h, x, hx => by
  rcases VA.1 hx with rfl | hx
  ·exact h.1
  ·exact JAK h.2 x hx
theorem XE : ∀ {l : List Fld}, JE3 l → ∀ x ∈ l, x.name.length ≤ 4096 ∧ nmV x.value
 | .mk n v :: r, h, x, hx => by
  rcases VA.1 hx with rfl | hx
  ·exact ⟨h.1, h.2.1⟩
  ·exact XE h.2.2 x hx
theorem JCE : ∀ {l : List Fld}, (∀ x ∈ l, x.name.length ≤ 4096 ∧ nmV x.value) → JE3 l
 | [], _ => trivial
 | .mk n v :: r, h => ⟨(h _ Vh).1, (h _ Vh).2, JCE fun x hx => h x (Vn _ hx)⟩
theorem JPo {t : Typ} {n : Str} (h : (tfR t n).2 = true) : (tfR t n).1.name = n := by
 unfold tfR at h ⊢;cases e : JIM n t.fields with
 | none => rw [e] at h; cases h
 | some i =>
  obtain ⟨hil, h2, _⟩ := List.findIdx?_eq_some_iff_getElem.1 e;simp only [Vl hil, Vp];simpa using h2
theorem JPp {v : Val} (h : nmV v) (n : Str) : nmV (XP v n).1 := by
 have hf := ((JBK v).1 h).2;unfold XP;split
 ·exact XR ⟨rfl, rfl⟩
 ·cases e : U6 n v.fields with
  | none => exact XR ⟨rfl, rfl⟩
  | some i =>
   have hil : i < v.fields.length := by
    obtain ⟨h, _⟩ := List.findIdx?_eq_some_iff_getElem.1 e;exact h
   simp only [Vl hil, Vj, Vp];exact (XE hf _ (Vk hil)).2
def JPq (ft : Typ → Val → Bool) (t : Typ) (v : Val) : Bool :=
 (t.fields.all fun g => if (XP v g.name).2 = true then ft g.type (XP v g.name).1 else !(g.need != 2)) && v.fields.all fun x => (tfR t x.name).2
theorem step97 (ft : Typ → Val → Bool) (t : Typ) (v : Val) (p : Str) (b : Bool) (L : Nat) (hL : L ≤ 68719476736) (hp : p.length + 5000 ≤ L) (hnt : ∀ g ∈ t.fields, g.name.length ≤ 4096) (hnv : nmV v)
  (h47 : ∀ g ∈ t.fields, ∀ y, nmV y → ∀ q c, q.length ≤ L → JCt 47 [Jk g.type, JB y, .str q] c (c && ft g.type y)) : JCt 97 [Jk t, JB v, .str p] b (b && JPq ft t v) := by
 refine Con.Ju ok97.has fun hfit => ?_
 have htl := (JCr (hfit (Jk t) sP)).2.2;have hvl := (YT (hfit (JB v) sP)).2.2;refine ok97.co (k := false) (JAJ b _) trivial ?_;have hnf := ((JBK v).1 hnv).2;generalize hR : (b && JPq ft t v) = R;unfold JPq at hR;rw [JN t, JA v];simp only [go_sem, ir97, TF, Va, Vb, simprocAttr];refine JJ (fun n s => ∃ (k : Nat) (c : Bool), k ≤ t.fields.length ∧ n = t.fields.length - k ∧
   (c && (((t.fields.drop k).all fun g => if (XP v g.name).2 = true then ft g.type (XP v g.name).1 else !(g.need != 2)) && v.fields.all fun x => (tfR t x.name).2)) = R ∧
  s = ⟨[(0, .ref 1000 0), (3, .d (.str p)), (5, .ref 5 0), (6, .ref 6 0), (17, .d (.list 11 (t.fields.map UW))), (18, .d (.int .i64 t.fields.length)), (19, .d (.int .i64 k))],
   [(1000, .box [.clo (.func 46) [] [.ref 1001 0], .d (.bool (!c))]), (1001, .box [.d (.bool c)]), (5, bxT t), (6, bxV v)]⟩) ?_ ?_
 ·refine ⟨_, _, Wk.refl _, 0, b, Nat.zero_le _, rfl, hR, ?_⟩;simp only [Vc, bxT, bxV]
  try rfl
 ·rintro n s ⟨k, c, hk, rfl, hinv, rfl⟩;by_cases hlt : k < t.fields.length
  ·have hx := Yh hlt;have hd := dT hlt;rw [Vq hlt, List.all_cons] at hinv;have hmem := Vk hlt;have hgn := hnt _ hmem;have c89 := (JOz v t.fields[k].name).call (by simp [JU]);have c163 := (JK4 p t.fields[k].name oM).call trivial;have hul := JPU p t.fields[k].name;have c92 := (JIU (JGv p t.fields[k].name) 5 c).to;have c47 := (h47 _ hmem (XP v t.fields[k].name).1 (JPp hnv _) (JGv p t.fields[k].name) c oM).to;generalize JGv p t.fields[k].name = q at *;generalize XP v t.fields[k].name = F at *;generalize t.fields[k] = g at *;generalize ft g.type F.1 = fb at *;rw [JA v, JA F.1] at c89;simp only [TF, Va, Vb] at c47 c92;rw [JN, JA] at c47;refine zz63 ?_;refine ⟨oM, ?_⟩;refine wd c89 ?_;apply ik <;> intro h
   ·rw [if_pos h, Bool.and_assoc, ← Bool.and_assoc] at hinv
    try refine zz2 ?_
    refine JC rfl c163 trivial ?_;refine zz2 ?_;refine JC rfl c47 ⟨rfl, rfl, trivial⟩ ?_;refine zz2 ?_;refine ⟨dC, t.fields.length - (k + 1), _, oM, Wk.less ?_, k + 1, c && fb, oM, rfl, hinv, rfl⟩;exact JI2 trivial
   ·rw [if_neg (nF h), Bool.and_assoc, ← Bool.and_assoc] at hinv
    try refine zz2 ?_
    apply ik <;> intro hn
    ·rw [hn, Vr, Bool.and_false] at hinv
     try refine zz2 ?_
     refine wd c163 ?_;refine wd c92 ?_;refine ⟨t.fields.length - (k + 1), _, oM, Wk.less ?_, k + 1, false, oM, rfl, hinv, rfl⟩;exact JI2 trivial
    ·rw [hn, Vs, Bool.and_true] at hinv
     try refine zz2 ?_
     refine ⟨t.fields.length - (k + 1), _, oM, Wk.less ?_, k + 1, c, oM, rfl, hinv, rfl⟩;exact JI2 trivial
  ·have hd := dF hlt;rw [List.drop_eq_nil_of_le oM, List.all_nil, Vt] at hinv;simp only [go_sem, hd, bxT, bxV, simprocAttr];refine JJ (fun n s => ∃ (k : Nat) (d : Bool), k ≤ v.fields.length ∧ n = v.fields.length - k ∧ (d && ((v.fields.drop k).all fun x => (tfR t x.name).2)) = R ∧
    s = ⟨[(0, .ref 1000 0), (3, .d (.str p)), (5, .ref 5 0), (51, .d (.list 7 (v.fields.map Jh))), (52, .d (.int .i64 v.fields.length)), (53, .d (.int .i64 k))],
     [(1000, .box [.clo (.func 46) [] [.ref 1001 0], .d (.bool (!d))]), (1001, .box [.d (.bool d)]), (5, bxT t), (6, bxV v)]⟩) ?_ ?_
   ·refine ⟨_, _, Wk.refl _, 0, c, Nat.zero_le _, rfl, hinv, ?_⟩;simp only [Vc, bxT, bxV]
    try rfl
   ·clear hinv;rintro n s ⟨k, c, hk, rfl, hinv, rfl⟩;by_cases hlt : k < v.fields.length
    ·have hx := J5 hlt;have hd := dT hlt;rw [Vq hlt, List.all_cons, ← Bool.and_assoc] at hinv;have hmem := Vk hlt;have hxn := (XE hnf _ hmem).1;have c98 := (JGt t v.fields[k].name).call (by simp [JU]);have c163 := (JK4 p v.fields[k].name oM).call trivial;have c92 := (JIU (JGv p v.fields[k].name) 6 c).to;generalize JGv p v.fields[k].name = q at *;generalize tfR t v.fields[k].name = T at *;generalize v.fields[k] = x at *;rw [JN t, UC T.1] at c98;simp only [TF, Va, Vb] at c92;refine zz63 ?_;refine ⟨oM, ?_⟩;refine wd c98 ?_;apply ik <;> intro h
     ·rw [show T.2 = false by simpa using h, Bool.and_false] at hinv
      try refine zz2 ?_
      refine wd c163 ?_;refine wd c92 ?_;refine ⟨v.fields.length - (k + 1), _, oM, Wk.less ?_, k + 1, false, oM, rfl, hinv, rfl⟩;exact JI2 trivial
     ·rw [show T.2 = true by simpa using h, Bool.and_true] at hinv
      try refine zz2 ?_
      refine ⟨v.fields.length - (k + 1), _, oM, Wk.less ?_, k + 1, c, oM, rfl, hinv, rfl⟩;exact JI2 trivial
    ·have hd := dF hlt;rw [List.drop_eq_nil_of_le oM, List.all_nil, Bool.and_true] at hinv;subst hinv;exact zz99 trivial
def JSe (ft : Typ → Val → Bool) (t : Typ) (v : Val) : Bool :=
 if ((decide (t.kind < 1) || decide (t.kind > 10)) || v.kind != t.kind) = true then false
 else if Zi v = false then false
 else if t.kind = 2 ∨ t.kind = 6 ∨ t.kind = 7 then inB t v.int
 else if t.kind = 3 then (if (v.scale != t.scale) = true then false else inB t v.int)
 else if t.kind = 4 ∨ t.kind = 5 then (if (t.kind == 4 && decide (((t.words.length : Nat) : Int) > 0)) = true then decide (v.text ∈ t.words) else inB t v.text.length)
 else if t.kind = 8 then inB t v.list.length && v.list.all fun x => if (((t.elem.length : Nat) : Int) == 1) = true then ft ((t.elem[0]?).getD ty0) x else false
 else if t.kind = 9 then JPq ft t v
 else if t.kind = 10 then (if (tfR t v.text).2 = true then ft (tfR t v.text).1.type ((v.list[0]?).getD zeroV) else false)
 else true
theorem step47 (ft : Typ → Val → Bool) (t : Typ) (v : Val) (p : Str) (b : Bool) (L : Nat) (hL : L ≤ 68719476736) (hp : p.length + 5000 ≤ L) (hnt : ∀ g ∈ t.fields, g.name.length ≤ 4096)
  (h8 : ∀ e ∈ t.elem, ∀ y ∈ v.list, ∀ q c, q.length ≤ L → JCt 47 [Jk e, JB y, .str q] c (c && ft e y))
  (h9 : ∀ c, JCt 97 [Jk t, JB v, .str p] c (c && JPq ft t v))
  (h10 : ∀ g ∈ t.fields, ∀ y ∈ v.list, ∀ q c, q.length ≤ L → JCt 47 [Jk g.type, JB y, .str q] c (c && ft g.type y)) : JCt 47 [Jk t, JB v, .str p] b (b && JSe ft t v) := by
 refine Con.Ju ok47c.has fun hfit => ?_
 have htl := JCr (hfit (Jk t) sP);have hvl := YT (hfit (JB v) sP);refine ok47c.co (k := false) (JAJ b _) trivial ?_;generalize hR : (b && JSe ft t v) = R;unfold JSe at hR;have c92 := fun n => (JIU p n true).to
 have c93 := (JO9 v).call trivial;have c94 := fun n => (con94 t p n true).to
 have c97 := (h9 true).to;have c98 := (JGt t v.text).call (by simp [JU]);have hf10 : v.kind = 10 → Zi v = true → v.list.length = 1 := by
  intro h hf;unfold Zi at hf;rw [h] at hf;simp only [Int.reduceBEq, Vu, ↓reduceIte, Vi, Bool.not_eq_true', bne_eq_false_iff_eq] at hf;have := hf.1;omega
 simp only [Vt] at c94 c97;simp only [TF, Va, Vb] at c92 c94 c97;rw [JA v] at c93 c97;rw [JN t] at c94 c97 c98;rw [JN t, JA v];cases b with
 | false =>
  rw [Bool.false_and] at hR;subst hR;simp only [go_sem, JPR, TF, Vs, Vr, Va, Vb, simprocAttr]
 | true =>
 rw [Vt] at hR;simp only [go_sem, JPR, TF, Vr, Va, Vb, simprocAttr];simp only [go_sem, b47_3, simprocAttr];refine sq (decide (t.kind > 10)) ?_ ?_
 ·exact zz2 trivial
 refine zz2 ?_;refine sq (v.kind != t.kind) ?_ ?_
 ·exact zz2 trivial
 refine zz2 ?_;apply ik <;> intro h
 ·rw [if_pos h] at hR;subst hR;simp only [go_sem, b47_0, simprocAttr];refine wn (c92 1) ?_;exact JCT trivial
 rw [if_neg (nF h)] at hR;simp only [go_sem, b47_2, simprocAttr];refine wd c93 ?_;apply ik <;> intro hf
 ·rw [if_pos (sX hf)] at hR;subst hR
  try simp only [go_sem, b47_1, simprocAttr]
  refine wn (c92 8) ?_;exact JCT trivial
 have hf' : Zi v = true := sX hf;rw [if_neg (by rw [hf']; exact Bool.noConfusion)] at hR;have hkk : 1 ≤ t.kind ∧ t.kind ≤ 10 ∧ v.kind = t.kind := by
  simp only [Bool.or_eq_false_iff, decide_eq_false_iff_not, bne_eq_false_iff_eq] at h;omega
 clear h
 try refine zz2 ?_
 have hks : t.kind = 1 ∨ t.kind = 2 ∨ t.kind = 3 ∨ t.kind = 4 ∨ t.kind = 5 ∨ t.kind = 6 ∨ t.kind = 7 ∨ t.kind = 8 ∨ t.kind = 9 ∨ t.kind = 10 := oM;rcases hks with hk | hk | hk | hk | hk | hk | hk | hk | hk | hk
 ·
  have e2 : (t.kind == 2) = false := by rw [hk]; rfl
  have e6 : (t.kind == 6) = false := by rw [hk]; rfl
  have e7 : (t.kind == 7) = false := by rw [hk]; rfl
  have e3 : (t.kind == 3) = false := by rw [hk]; rfl
  have e4 : (t.kind == 4) = false := by rw [hk]; rfl
  have e5 : (t.kind == 5) = false := by rw [hk]; rfl
  have e8 : (t.kind == 8) = false := by rw [hk]; rfl
  have e9 : (t.kind == 9) = false := by rw [hk]; rfl
  have e10 : (t.kind == 10) = false := by rw [hk]; rfl
  simp only [hk, Int.reduceEq, or_false, or_true, false_or, true_or, ↓reduceIte] at hR
  try refine JFG ?_
  refine JGG ?_;refine JLU ?_;refine JQp ?_;refine zz64 ?_;refine JS0 ?_;subst hR
  try simp only [go_sem, TF, Vr, simprocAttr]
 ·
  have e2 : (t.kind == 2) = true := by rw [hk]; rfl
  have e6 : (t.kind == 6) = false := by rw [hk]; rfl
  have e7 : (t.kind == 7) = false := by rw [hk]; rfl
  have e3 : (t.kind == 3) = false := by rw [hk]; rfl
  have e4 : (t.kind == 4) = false := by rw [hk]; rfl
  have e5 : (t.kind == 5) = false := by rw [hk]; rfl
  have e8 : (t.kind == 8) = false := by rw [hk]; rfl
  have e9 : (t.kind == 9) = false := by rw [hk]; rfl
  have e10 : (t.kind == 10) = false := by rw [hk]; rfl
  simp only [hk, Int.reduceEq, or_false, or_true, false_or, true_or, ↓reduceIte] at hR
  try refine JFG ?_
  refine zz65 ?_;subst hR;refine wn (c94 v.int) ?_;exact JCT trivial
 ·
  have e2 : (t.kind == 2) = false := by rw [hk]; rfl
  have e6 : (t.kind == 6) = false := by rw [hk]; rfl
  have e7 : (t.kind == 7) = false := by rw [hk]; rfl
  have e3 : (t.kind == 3) = true := by rw [hk]; rfl
  have e4 : (t.kind == 4) = false := by rw [hk]; rfl
  have e5 : (t.kind == 5) = false := by rw [hk]; rfl
  have e8 : (t.kind == 8) = false := by rw [hk]; rfl
  have e9 : (t.kind == 9) = false := by rw [hk]; rfl
  have e10 : (t.kind == 10) = false := by rw [hk]; rfl
  simp only [hk, Int.reduceEq, or_false, or_true, false_or, true_or, ↓reduceIte] at hR
  try refine JFG ?_
  refine JGG ?_;simp only [go_sem, e2, e6, e7, e3, e4, e5, e8, e9, e10, b47_8, simprocAttr];apply ik <;> intro h
  ·rw [if_pos h] at hR;subst hR;simp only [go_sem, b47_6, simprocAttr];refine wn (c92 3) ?_;exact JCT trivial
  ·rw [if_neg (nF h)] at hR;subst hR;simp only [go_sem, b47_7, simprocAttr];refine wn (c94 v.int) ?_;exact JCT trivial
 ·
  have e2 : (t.kind == 2) = false := by rw [hk]; rfl
  have e6 : (t.kind == 6) = false := by rw [hk]; rfl
  have e7 : (t.kind == 7) = false := by rw [hk]; rfl
  have e3 : (t.kind == 3) = false := by rw [hk]; rfl
  have e4 : (t.kind == 4) = true := by rw [hk]; rfl
  have e5 : (t.kind == 5) = false := by rw [hk]; rfl
  have e8 : (t.kind == 8) = false := by rw [hk]; rfl
  have e9 : (t.kind == 9) = false := by rw [hk]; rfl
  have e10 : (t.kind == 10) = false := by rw [hk]; rfl
  simp only [hk, Int.reduceEq, or_false, or_true, false_or, true_or, ↓reduceIte] at hR
  try refine JFG ?_
  refine JGG ?_;refine JLU ?_;refine JS1 ?_;have c95 := (JPT t.words v.text htl.1).call trivial;apply ik <;> intro h
  ·rw [if_pos (sX h)] at hR;simp only [go_sem, JPD, simprocAttr];refine wd c95 ?_;apply ik <;> intro hw
   ·rw [show decide (v.text ∈ t.words) = false by simpa using hw] at hR;subst hR
    try simp only [go_sem, b47_9, simprocAttr]
    refine wn (c92 4) ?_;exact JCT trivial
   ·rw [show decide (v.text ∈ t.words) = true by simpa using hw] at hR;subst hR
    try simp only [go_sem, TF, Vr, simprocAttr]
  ·rw [if_neg (sX h)] at hR;subst hR;refine JS2 ?_;refine wn (c94 v.text.length) ?_;exact JCT trivial
 ·
  have e2 : (t.kind == 2) = false := by rw [hk]; rfl
  have e6 : (t.kind == 6) = false := by rw [hk]; rfl
  have e7 : (t.kind == 7) = false := by rw [hk]; rfl
  have e3 : (t.kind == 3) = false := by rw [hk]; rfl
  have e4 : (t.kind == 4) = false := by rw [hk]; rfl
  have e5 : (t.kind == 5) = true := by rw [hk]; rfl
  have e8 : (t.kind == 8) = false := by rw [hk]; rfl
  have e9 : (t.kind == 9) = false := by rw [hk]; rfl
  have e10 : (t.kind == 10) = false := by rw [hk]; rfl
  simp only [hk, Int.reduceEq, or_false, or_true, false_or, true_or, ↓reduceIte] at hR
  try refine JFG ?_
  refine JGG ?_;refine JLU ?_;refine JS1 ?_;have c95 := (JPT t.words v.text htl.1).call trivial;rw [if_neg sP] at hR;subst hR
  try refine JS2 ?_
  refine wn (c94 v.text.length) ?_;exact JCT trivial
 ·
  have e2 : (t.kind == 2) = false := by rw [hk]; rfl
  have e6 : (t.kind == 6) = true := by rw [hk]; rfl
  have e7 : (t.kind == 7) = false := by rw [hk]; rfl
  have e3 : (t.kind == 3) = false := by rw [hk]; rfl
  have e4 : (t.kind == 4) = false := by rw [hk]; rfl
  have e5 : (t.kind == 5) = false := by rw [hk]; rfl
  have e8 : (t.kind == 8) = false := by rw [hk]; rfl
  have e9 : (t.kind == 9) = false := by rw [hk]; rfl
  have e10 : (t.kind == 10) = false := by rw [hk]; rfl
  simp only [hk, Int.reduceEq, or_false, or_true, false_or, true_or, ↓reduceIte] at hR
  try refine JFG ?_
  refine JGG ?_;refine zz65 ?_;subst hR;refine wn (c94 v.int) ?_;exact JCT trivial
 ·
  have e2 : (t.kind == 2) = false := by rw [hk]; rfl
  have e6 : (t.kind == 6) = false := by rw [hk]; rfl
  have e7 : (t.kind == 7) = true := by rw [hk]; rfl
  have e3 : (t.kind == 3) = false := by rw [hk]; rfl
  have e4 : (t.kind == 4) = false := by rw [hk]; rfl
  have e5 : (t.kind == 5) = false := by rw [hk]; rfl
  have e8 : (t.kind == 8) = false := by rw [hk]; rfl
  have e9 : (t.kind == 9) = false := by rw [hk]; rfl
  have e10 : (t.kind == 10) = false := by rw [hk]; rfl
  simp only [hk, Int.reduceEq, or_false, or_true, false_or, true_or, ↓reduceIte] at hR
  try refine JFG ?_
  refine JGG ?_;refine zz65 ?_;subst hR;refine wn (c94 v.int) ?_;exact JCT trivial
 ·
  have e2 : (t.kind == 2) = false := by rw [hk]; rfl
  have e6 : (t.kind == 6) = false := by rw [hk]; rfl
  have e7 : (t.kind == 7) = false := by rw [hk]; rfl
  have e3 : (t.kind == 3) = false := by rw [hk]; rfl
  have e4 : (t.kind == 4) = false := by rw [hk]; rfl
  have e5 : (t.kind == 5) = false := by rw [hk]; rfl
  have e8 : (t.kind == 8) = true := by rw [hk]; rfl
  have e9 : (t.kind == 9) = false := by rw [hk]; rfl
  have e10 : (t.kind == 10) = false := by rw [hk]; rfl
  simp only [hk, Int.reduceEq, or_false, or_true, false_or, true_or, ↓reduceIte] at hR
  try refine JFG ?_
  refine JGG ?_;refine JLU ?_;refine JQp ?_;simp only [go_sem, e2, e6, e7, e3, e4, e5, e8, e9, e10, JPI, simprocAttr]
  try simp only [Vc]
  refine wn (c94 v.list.length) ?_;simp only [go_sem, Vc, TF, simprocAttr];refine JJ (fun n s => ∃ (k : Nat) (c : Bool), k ≤ v.list.length ∧ n = v.list.length - k ∧
    (c && ((v.list.drop k).all fun x => if (((t.elem.length : Nat) : Int) == 1) = true then ft ((t.elem[0]?).getD ty0) x else false)) = R ∧
   s = ⟨[(0, .ref 1000 0), (3, .d (.str p)), (5, .ref 5 0), (110, .d (.list 6 (v.list.map JB))), (111, .d (.int .i64 v.list.length)), (112, .d (.int .i64 k))],
    [(1000, .box [.clo (.func 46) [] [.ref 1001 0], .d (.bool (!c))]), (1001, .box [.d (.bool c)]), (5, bxT t), (6, bxV v)]⟩) ?_ ?_
  ·refine ⟨_, _, Wk.less ?_, 0, inB t v.list.length, Nat.zero_le _, rfl, hR, rfl⟩;simp only [go_sem, bxT, bxV, simprocAttr]
   try rfl
  ·clear hR;rintro n s ⟨k, c, hk2, rfl, hinv, rfl⟩;by_cases hlt : k < v.list.length
   ·have hx := Jy hlt;have hd := dT hlt;rw [Vq hlt, List.all_cons, ← Bool.and_assoc] at hinv;have hmem := Vk hlt;have c96 := call96 (k : Int) oM oM;have hil := Lib.itoa_length_le (k : Int) oM oM;generalize Lib.itoa (k : Int) = it at *;have hql : (((p ++ [91]) ++ it) ++ [93]).length ≤ L := by
     simp only [Vg, Vf, Vm];omega
    have hq1 : (p ++ [91]).length ≤ 68719476736 := by simp only [Vg, Vf, Vm]; omega
    have hq2 : ((p ++ [91]) ++ it).length ≤ 68719476736 := by simp only [Vg, Vf, Vm]; omega
    have hq3 : (((p ++ [91]) ++ it) ++ [93]).length ≤ 68719476736 := oM;refine zz63 ?_;refine ⟨oM, hq1, ?_⟩;refine wn c96 ?_;refine JM6 ?_;refine ⟨hq2, hq3, ?_⟩;apply ik <;> intro h1
    ·rw [if_pos h1] at hinv;have he0 : 0 < t.elem.length := by
      simp only [beq_iff_eq] at h1;omega
     have hx0 := JBq he0;have c47 := (h8 t.elem[0] (Vk he0) v.list[k] hmem _ c hql).to;have e0 : t.elem[0] = (t.elem[0]?).getD ty0 := by rw [Vl he0, Vp]
     rw [e0] at c47 hx0;generalize ft ((t.elem[0]?).getD ty0) v.list[k] = fb at *;simp only [TF, Va, Vb] at c47;rw [JN, JA] at c47;simp only [go_sem, hx0, Int.toNat_zero, Vc, JPG, simprocAttr];refine ⟨oM, wn c47 ?_⟩;refine zz2 ?_;refine ⟨v.list.length - (k + 1), _, oM, Wk.less ?_, k + 1, c && fb, oM, rfl, hinv, rfl⟩;exact JI2 trivial
    ·rw [if_neg (nF h1), Bool.and_false] at hinv;have c92 := (JIU (((p ++ [91]) ++ it) ++ [93]) 1 c).to;simp only [TF, Va, Vb] at c92;simp only [go_sem, JPH, simprocAttr];refine wd c92 ?_;refine ⟨v.list.length - (k + 1), _, oM, Wk.less ?_, k + 1, false, oM, rfl, hinv, rfl⟩;exact JI2 trivial
   ·have hd := dF hlt;rw [List.drop_eq_nil_of_le oM, List.all_nil, Bool.and_true] at hinv;subst hinv;exact zz99 trivial
 ·
  have e2 : (t.kind == 2) = false := by rw [hk]; rfl
  have e6 : (t.kind == 6) = false := by rw [hk]; rfl
  have e7 : (t.kind == 7) = false := by rw [hk]; rfl
  have e3 : (t.kind == 3) = false := by rw [hk]; rfl
  have e4 : (t.kind == 4) = false := by rw [hk]; rfl
  have e5 : (t.kind == 5) = false := by rw [hk]; rfl
  have e8 : (t.kind == 8) = false := by rw [hk]; rfl
  have e9 : (t.kind == 9) = true := by rw [hk]; rfl
  have e10 : (t.kind == 10) = false := by rw [hk]; rfl
  simp only [hk, Int.reduceEq, or_false, or_true, false_or, true_or, ↓reduceIte] at hR
  try refine JFG ?_
  refine JGG ?_;refine JLU ?_;refine JQp ?_;refine zz64 ?_;simp only [go_sem, e2, e6, e7, e3, e4, e5, e8, e9, e10, JPJ, simprocAttr];subst hR;refine wn c97 ?_;exact JCT trivial
 ·
  have e2 : (t.kind == 2) = false := by rw [hk]; rfl
  have e6 : (t.kind == 6) = false := by rw [hk]; rfl
  have e7 : (t.kind == 7) = false := by rw [hk]; rfl
  have e3 : (t.kind == 3) = false := by rw [hk]; rfl
  have e4 : (t.kind == 4) = false := by rw [hk]; rfl
  have e5 : (t.kind == 5) = false := by rw [hk]; rfl
  have e8 : (t.kind == 8) = false := by rw [hk]; rfl
  have e9 : (t.kind == 9) = false := by rw [hk]; rfl
  have e10 : (t.kind == 10) = true := by rw [hk]; rfl
  simp only [hk, Int.reduceEq, or_false, or_true, false_or, true_or, ↓reduceIte] at hR
  try refine JFG ?_
  refine JGG ?_;refine JLU ?_;refine JQp ?_;refine zz64 ?_;refine JS0 ?_;simp only [go_sem, e2, e6, e7, e3, e4, e5, e8, e9, e10, JPM, simprocAttr];have hl1 := hf10 (hkk.2.2.trans hk) hf';have hl0 : 0 < v.list.length := oM;have hx0 := Jy hl0;have hlm := Vk hl0;have hin := @JCA t v.text;have hnn : (tfR t v.text).2 = true → v.text.length ≤ 4096 := by
   intro h;have h2 := hnt _ (hin h);have h3 := JPo h;rw [h3] at h2;exact h2
  generalize tfR t v.text = T at *;have c47 : T.2 = true → _ := fun h => (h10 T.1 (hin h) v.list[0] hlm ((p ++ [63]) ++ v.text) true (by have := hnn h; simp only [Vg, Vf, Vm]; omega)).to
  rw [Vl hl0, Vp] at hR;generalize ft T.1.type v.list[0] = fb at *;rw [UC T.1] at c98;refine wd c98 ?_;apply ik <;> intro h
  ·rw [if_pos h] at hR;subst hR;have c47 := c47 h;have hn := hnn h;simp only [TF, Va, Vb, Vt] at c47;rw [JN, JA] at c47;have hq1 : (p ++ [63]).length ≤ 68719476736 := by simp only [Vg, Vf, Vm]; omega
   have hq2 : ((p ++ [63]) ++ v.text).length ≤ 68719476736 := by simp only [Vg, Vf, Vm]; omega
   simp only [go_sem, hx0, Int.toNat_zero, Vc, JPK, simprocAttr];refine ⟨oM, hq1, hq2, wn c47 ?_⟩;exact JCT trivial
  ·rw [if_neg (nF h)] at hR;subst hR;simp only [go_sem, JPL, simprocAttr];refine wn (c92 7) ?_;exact JCT trivial
mutual
def okY : Typ → Prop
 | .mk _ _ _ _ _ e f => JPr e ∧ JJp f
def JPr : List Typ → Prop
 | [] => True
 | v :: r => okY v ∧ JPr r
def JJp : List TFl → Prop
 | [] => True
 | .mk _ n _ t d :: r => (n.length ≤ 4096 ∧ okY t ∧ ∀ x ∈ d, okT x) ∧ JJp r
end
theorem JPs (t : Typ) : okY t ↔ JPr t.elem ∧ JJp t.fields := by cases t; rfl
theorem JE4 : ∀ {l : List Typ}, JPr l → ∀ x ∈ l, okY x
 | v :: r, h, x, hx => by
  rcases VA.1 hx with rfl | hx
  ·exact h.1
  ·exact JE4 h.2 x hx
theorem YF : ∀ {l : List TFl}, JJp l → ∀ x ∈ l, x.name.length ≤ 4096 ∧ okY x.type ∧ ∀ y ∈ x.dflt, okT y
 | .mk a n b t d :: r, h, x, hx => by
  rcases VA.1 hx with rfl | hx
  ·exact h.1
  ·exact YF h.2 x hx
def JGx : Nat → Typ → Val → Bool
 | 0, _, _ => true
 | k + 1, t, v => JSe (JGx k) t v
theorem JGy : ∀ (k : Nat) (t : Typ) (v : Val) (p : Str) (b : Bool), szT t ≤ k → okY t → nmV v → p.length + 5000 * k ≤ 68719476736 → JCt 47 [Jk t, JB v, .str p] b (b && JGx k t v)
 | 0, t, v, p, b, h, _, _, _ => by rw [JEx] at h; omega
 | k + 1, t, v, p, b, h, hy, hn, hp => by
  have e := JEx t;obtain ⟨y1, y2⟩ := (JPs t).1 hy;obtain ⟨n1, n2⟩ := (JBK v).1 hn;obtain ⟨L, hLd⟩ : ∃ L, L + 5000 * k = 68719476736 := ⟨68719476736 - 5000 * k, oM⟩;have hL : L ≤ 68719476736 := oM;have hp' : p.length + 5000 ≤ L := by
   rw [Nat.mul_succ, ← hLd, ← Nat.add_assoc, Nat.add_right_comm] at hp;exact Nat.le_of_add_le_add_right hp
  refine step47 (JGx k) t v p b L hL hp' (fun g hg => (YF y2 g hg).1) (fun x hx y hy q c hq => ?_) (fun c => ?_) (fun g hg y hy q c hq => ?_)
  ·have a := JEy x hx;exact JGy k x y q c oM (JE4 y1 x hx) (JAK n1 y hy) oM
  ·refine step97 (JGx k) t v p c L hL hp' (fun g hg => (YF y2 g hg).1) hn (fun g hg y hy q d hq => ?_);have a := JAI g hg;exact JGy k g.type y q d oM (YF y2 g hg).2.1 hy oM
  ·have a := JAI g hg;exact JGy k g.type y q c oM (YF y2 g hg).2.1 (JAK n1 y hy) oM
theorem JPt (t : Typ) (v : Val) (hs : szT t ≤ 1000) (hy : okY t) (hn : nmV v) : PT 14 [Jk t, JB v] (.d (.bool (JGx 1000 t v))) := by
 refine ok14.pc ?_;have c := (JGy 1000 t v [] true hs hy hn sP).at 6 5 dC;rw [Vt] at c;generalize JGx 1000 t v = R at *;rw [JN t, JA v] at c ⊢;simp only [Va, Vb, Vr] at c;simp only [go_sem, ir14, simprocAttr];refine wd c trivial
theorem JSf {ch : Typ → Val → Val} {t : Typ} {l : List Fld} (hl : JE3 l) (hc : ∀ g ∈ t.fields, ∀ y, nmV y → nmV (ch g.type y)) : JE3 (JBJ ch t l) := by
 refine JCE fun x hx => ?_
 obtain ⟨y, hy, rfl⟩ := VC.1 hx;obtain ⟨a, b⟩ := XE hl y hy;split
 ·rename_i h;exact ⟨a, hc _ (JCA h) _ b⟩
 ·exact ⟨a, b⟩
theorem X0 : nmV zeroV := XR ⟨rfl, rfl⟩
theorem JPu {l : List Val} (h : ∀ x ∈ l, nmV x) (i : Nat) : nmV ((l[i]?).getD zeroV) := by
 cases e : l[i]? with
 | none => exact X0
 | some x => exact h x (List.mem_of_getElem? e)
theorem JIZ {k i s : Int} {t : Str} {l : List Val} {f : List Fld} (h1 : JJn l) (h2 : JE3 f) : nmV (.mk k i s t l f) := ⟨h1, h2⟩
theorem JK6 : ∀ {l : List TFl} {fs : List Fld}, JE3 fs → JJp l → JE3 (JIR fs l)
 | [], _, h, _ => h
 | g :: r, fs, h, hy => by
  rw [JIR];have hg := YF hy g Vh;have hr : JJp r := by cases g; exact hy.2
  refine JK6 ?_ hr;unfold JLr;split
  ·exact h
  split
  ·exact h
  ·refine JCE fun x hx => ?_
   rcases List.mem_append.1 hx with hx | hx
   ·exact XE h x (List.mem_of_mem_take hx)
   rcases VA.1 hx with rfl | hx
   ·exact ⟨hg.1, JPu (fun y hy => JIW y (hg.2.2 y hy)) 0⟩
   ·exact XE h x (List.mem_of_mem_drop hx)
theorem JPv : ∀ (k : Nat) (t : Typ) (v : Val), okY t → nmV v → nmV (cmF k t v)
 | 0, t, v, _, h => h
 | k + 1, t, v, hy, h => by
  obtain ⟨y1, y2⟩ := (JPs t).1 hy;obtain ⟨n1, n2⟩ := (JBK v).1 h;have ih := JPv k;rw [cmF];unfold cmS;split
  ·exact h
  split
  ·exact JIZ n1 (JK6 (JSf n2 fun g hg y hy => ih _ _ (YF y2 g hg).2.1 hy) y2)
  unfold JJk;split
  ·rename_i h8;have he0 : 0 < t.elem.length := by
    simp only [Vi, beq_iff_eq] at h8;omega
   rw [Vl he0, Vp];refine JIZ (JGw fun x hx => ?_) n2;obtain ⟨y, hy, rfl⟩ := VC.1 hx;exact ih _ _ (JE4 y1 _ (Vk he0)) (JAK n1 y hy)
  split
  ·split
   ·rename_i hT;refine JIZ ⟨ih _ _ (YF y2 _ (JCA hT)).2.1 (JPu (fun x hx => JAK n1 x hx) 0), trivial⟩ n2
   ·exact h
  ·exact h
theorem JSg (k : Nat) (t : Typ) (v : Val) : (cmF k t v).kind = v.kind := by
 cases k with
 | zero => rfl
 | succ k =>
  rw [cmF];unfold cmS;split
  ·rfl
  split
  ·rfl
  unfold JJk;split
  ·rfl
  split
  ·split <;> rfl
  ·rfl
def JE5 (t : Typ) (v : Val) : Val × Int := if JGx 1000 t (cmF 1000 t v) = true then (cmF 1000 t v, 0) else (zeroV, 18)
theorem walk45 (t : Typ) (v : Val) (hs : szT t ≤ 1000) (hy : okY t) (hn : nmV v) (hv : szV v ≤ 400000000) :
  PT 45 [Jk t, JB v] (.tup [.d (JB (JE5 t v).1), .d (.int .i64 (JE5 t v).2)]) := by
 refine ok45.pc ?_;have c91 := (JGu 1000 t v hs dC hv).call trivial;have c14 := (JPt t (cmF 1000 t v) hs hy (JPv 1000 t v hy hn)).call trivial;have c55 := (p55 (cmF 1000 t v)).call trivial;generalize hR : JE5 t v = R;unfold JE5 at hR;generalize cmF 1000 t v = C at *;rw [JN, JA v, JA C] at c91;rw [JN, JA C] at c14;rw [JA C] at c55;rw [JN, JA v, JA R.1];simp only [go_sem, ir45, simprocAttr];refine wd c91 ?_;refine wd c14 ?_;apply ik <;> intro h
 ·rw [if_neg (sX h)] at hR;subst hR;rfl
 ·rw [if_pos (sX h)] at hR;subst hR
  try refine zz2 ?_
  refine wd c55 trivial
mutual
def smT : Typ → Int → Int → Bool × Int
 | .mk _ _ _ _ w e f, d, n =>
  if ((decide (IntKind.i64.wrap (n - 1) < 0) || d == 0) || decide (((w.length : Nat) : Int) > 70)) = true then (false, IntKind.i64.wrap (n - 1))
  else if (w.all fun s => !decide (((s.length : Nat) : Int) > 2000)) = false then (false, IntKind.i64.wrap (n - 1))
  else if (JAq e (IntKind.i64.wrap (d - 1)) (IntKind.i64.wrap (n - 1))).1 = true then JCv f (IntKind.i64.wrap (d - 1)) (JAq e (IntKind.i64.wrap (d - 1)) (IntKind.i64.wrap (n - 1))).2
  else (false, (JAq e (IntKind.i64.wrap (d - 1)) (IntKind.i64.wrap (n - 1))).2)
def JAq : List Typ → Int → Int → Bool × Int
 | [], _, n => (true, n)
 | v :: r, d, n => if (smT v d n).1 = true then JAq r d (smT v d n).2 else (false, (smT v d n).2)
def JCv : List TFl → Int → Int → Bool × Int
 | [], _, n => (true, n)
 | .mk _ nm _ t df :: r, d, n => if ((!(smT t d n).1 || decide (((df.length : Nat) : Int) > 3)) || decide (((nm.length : Nat) : Int) > 100)) = true then (false, (smT t d n).2)
  else if df.all XD = false then (false, (smT t d n).2) else JCv r d (smT t d n).2
end
theorem smT_eq (t : Typ) (d n : Int) : smT t d n = if ((decide (IntKind.i64.wrap (n - 1) < 0) || d == 0) || decide (((t.words.length : Nat) : Int) > 70)) = true then (false, IntKind.i64.wrap (n - 1))
  else if (t.words.all fun s => !decide (((s.length : Nat) : Int) > 2000)) = false then (false, IntKind.i64.wrap (n - 1))
  else if (JAq t.elem (IntKind.i64.wrap (d - 1)) (IntKind.i64.wrap (n - 1))).1 = true then JCv t.fields (IntKind.i64.wrap (d - 1)) (JAq t.elem (IntKind.i64.wrap (d - 1)) (IntKind.i64.wrap (n - 1))).2
  else (false, (JAq t.elem (IntKind.i64.wrap (d - 1)) (IntKind.i64.wrap (n - 1))).2) := by
 cases t; rw [smT]; rfl
theorem JLz (g : TFl) (r : List TFl) (d n : Int) : JCv (g :: r) d n = if ((!(smT g.type d n).1 || decide (((g.dflt.length : Nat) : Int) > 3)) || decide (((g.name.length : Nat) : Int) > 100)) = true then (false, (smT g.type d n).2)
  else if g.dflt.all XD = false then (false, (smT g.type d n).2) else JCv r d (smT g.type d n).2 := by
 cases g; rw [JCv]; rfl
abbrev bxG (f : TFl) : Av.Obj := .box [.d (.int .i64 f.number), .d (.str f.name), .d (.int .i64 f.need), .d (.int .i64 f.type.kind), .d (.int .i64 f.type.min), .d (.int .i64 f.type.max), .d (.int .i64 f.type.scale),
  .d (.list 1 (f.type.words.map .str)), .d (.list 7 (f.type.elem.map Jk)), .d (.list 11 (f.type.fields.map UW)), .d (.list 6 (f.dflt.map JB))]
theorem step40 (a : Typ) (d n : Int) (h1 : ∀ x ∈ a.elem, ∀ d n, KT 40 [.d (Jk x), .d (.int .i64 d), .ref 1000 0] [(1000, .box [.d (.int .i64 n)])] (.d (.bool (smT x d n).1)) [(1000, .box [.d (.int .i64 (smT x d n).2)])])
  (h2 : ∀ x ∈ a.fields, ∀ d n, KT 40 [.d (Jk x.type), .d (.int .i64 d), .ref 1000 0] [(1000, .box [.d (.int .i64 n)])] (.d (.bool (smT x.type d n).1)) [(1000, .box [.d (.int .i64 (smT x.type d n).2)])]) :
  KT 40 [.d (Jk a), .d (.int .i64 d), .ref 1000 0] [(1000, .box [.d (.int .i64 n)])] (.d (.bool (smT a d n).1)) [(1000, .box [.d (.int .i64 (smT a d n).2)])] := by
 refine Con.Ju ok40.has fun hfit => ?_
 obtain ⟨hl1, hl2, hl3⟩ := JCr (hfit (Jk a) sP);have hfitG : ∀ g ∈ a.fields, g.dflt.length ≤ 68719476736 := by
  intro g hg;have h := hfit (Jk a) sP;rw [JN] at h;simp only [fits, XL, and_true] at h;have h3 := UQ.1 h.2.2.2.2.2.2.2 (UW g) (VC.2 ⟨g, hg, rfl⟩);rw [UC] at h3;simp only [fits, XL, Vc, and_true] at h3;exact h3.2.2.2.2.2.2.2.2.2.2.1
 refine ok40.co (k := false) (Jd (by simp [UA, put, Jc, J4, JP, JW])) trivial ?_;rw [JN];generalize hR : smT a d n = R;rw [smT_eq] at hR;simp only [go_sem, ir40, Nat.reduceAdd, Nat.reduceEqDiff, Nat.reduceBEq, Nat.reduceLeDiff, Int.reduceBEq, reduceCtorEq, ↓reduceIte];refine sq (d == 0) ?_ ?_
 all_goals simp only [go_sem, Nat.reduceAdd, Nat.reduceEqDiff, Nat.reduceBEq, Nat.reduceLeDiff, Int.reduceBEq, reduceCtorEq, ↓reduceIte]
 refine sq (decide (((a.words.length : Nat) : Int) > 70)) ?_ ?_
 all_goals simp only [go_sem, Vc, Nat.reduceAdd, Nat.reduceEqDiff, Nat.reduceBEq, Nat.reduceLeDiff, Int.reduceBEq, reduceCtorEq, ↓reduceIte]
 apply ik <;> intro hb
 ·rw [if_pos hb] at hR;subst hR
  try simp only [go_sem, Nat.reduceAdd, Nat.reduceEqDiff, Nat.reduceBEq, Nat.reduceLeDiff, Int.reduceBEq, reduceCtorEq, ↓reduceIte]
 rw [if_neg (nF hb)] at hR;clear hb;generalize hw : IntKind.i64.wrap (n - 1) = w at *;generalize hd1 : IntKind.i64.wrap (d - 1) = d1 at *
 try refine zz2 ?_
 refine JJ (fun r s => ∃ (k : Nat), k ≤ a.words.length ∧ r = a.words.length - k ∧ (a.words.all fun s => !decide (((s.length : Nat) : Int) > 2000)) = ((a.words.drop k).all fun s => !decide (((s.length : Nat) : Int) > 2000)) ∧
  s = ⟨[(1, .d (.int .i64 d)), (2, .ref 1000 0), (3, .ref 3 0), (7, .d (.int .i64 k))], [(1000, .box [.d (.int .i64 w)]), (3, bxT a)]⟩) ?_ ?_
 ·exact ⟨_, _, Wk.refl _, 0, Nat.zero_le _, rfl, rfl, rfl⟩
 rintro r s ⟨k, hk, rfl, hinv, rfl⟩;by_cases hlt : k < a.words.length
 ·have hx : nth (a.words.map Dat.str) k = .str a.words[k] := by rw [U2 (sX hlt), List.getElem_map]
  have hd := dT hlt;rw [Vq hlt, List.all_cons] at hinv;simp only [go_sem, hx, hd, Vv, Vc, bxT, Nat.reduceAdd, Nat.reduceEqDiff, Nat.reduceBEq, Nat.reduceLeDiff, Int.reduceBEq, reduceCtorEq, ↓reduceIte];refine ⟨oM, dC, ?_⟩;apply ik <;> intro hf
  ·rw [hf, Vr, Bool.false_and] at hinv;rw [if_pos hinv] at hR;subst hR
   try simp only [go_sem, Nat.reduceAdd, Nat.reduceEqDiff, Nat.reduceBEq, Nat.reduceLeDiff, Int.reduceBEq, reduceCtorEq, ↓reduceIte]
  ·rw [hf, Vs, Vt] at hinv;refine ⟨a.words.length - (k + 1), _, oM, Wk.less ?_, k + 1, oM, rfl, hinv, rfl⟩;exact zz66 trivial
 have hd := dF hlt;obtain rfl : k = a.words.length := oM;rw [List.drop_length, List.all_nil] at hinv;rw [if_neg (by rw [hinv]; exact Bool.noConfusion)] at hR;clear hinv;refine zz67 ?_;refine JJ (fun r s => ∃ (k : Nat) (m : Int), k ≤ a.elem.length ∧ r = a.elem.length - k ∧ JAq a.elem d1 w = JAq (a.elem.drop k) d1 m ∧
  s = ⟨[(1, .d (.int .i64 d)), (2, .ref 1000 0), (3, .ref 3 0), (8, .d (.int .i64 k))], [(1000, .box [.d (.int .i64 m)]), (3, bxT a)]⟩) ?_ ?_
 ·exact ⟨_, _, Wk.refl _, 0, w, Nat.zero_le _, rfl, rfl, rfl⟩
 clear hk hlt hd;rintro r s ⟨k, m, hk, rfl, hinv, rfl⟩;by_cases hlt : k < a.elem.length
 ·have hx := JBq hlt;have hd := dT hlt;have hc := (h1 a.elem[k] (Vk _) d1 m).cnt (ds := [Jk a.elem[k], .int .i64 d1]) 1000;rw [Vq hlt, JAq] at hinv;generalize smT a.elem[k] d1 m = Q at *;rw [JN] at hc;refine JS3 ?_;refine ⟨oM, wn hc ?_⟩;refine zz2 ?_;apply ik <;> intro hf
  ·have hf' : ¬ Q.1 = true := sX hf;rw [if_neg hf'] at hinv;rw [hinv] at hR;rw [if_neg Bool.false_ne_true] at hR;subst hR
   try simp only [go_sem, Nat.reduceAdd, Nat.reduceEqDiff, Nat.reduceBEq, Nat.reduceLeDiff, Int.reduceBEq, reduceCtorEq, ↓reduceIte]
  ·have hf' : Q.1 = true := sX hf;rw [if_pos hf'] at hinv;refine ⟨a.elem.length - (k + 1), _, oM, Wk.less ?_, k + 1, Q.2, oM, rfl, hinv, rfl⟩;exact zz66 trivial
 have hd := dF hlt;obtain rfl : k = a.elem.length := oM;rw [List.drop_length, JAq] at hinv;rw [hinv] at hR;rw [if_pos rfl] at hR;clear hinv;refine zz67 ?_;refine JJ (fun r s => ∃ (k : Nat) (m' : Int), k ≤ a.fields.length ∧ r = a.fields.length - k ∧ JCv (a.fields.drop k) d1 m' = R ∧
  s = ⟨[(1, .d (.int .i64 d)), (2, .ref 1000 0), (3, .ref 3 0), (9, .d (.int .i64 k))], [(1000, .box [.d (.int .i64 m')]), (3, bxT a)]⟩) ?_ ?_
 ·exact ⟨_, _, Wk.refl _, 0, m, Nat.zero_le _, rfl, hR, rfl⟩
 clear hk hlt hd hR;rintro r s ⟨k, m, hk, rfl, hinv, rfl⟩;by_cases hlt : k < a.fields.length
 ·have hx := Yh hlt;have hd := dT hlt;have hc := (h2 a.fields[k] (Vk _) d1 m).cnt (ds := [Jk a.fields[k].type, .int .i64 d1]) 1000;have hdl := hfitG _ (Vk hlt);rw [Vq hlt, JLz] at hinv;generalize a.fields[k] = g at *;generalize smT g.type d1 m = Q at *;rw [JN] at hc;refine JS3 ?_;refine ⟨oM, wn hc ?_⟩;refine zz2 ?_;refine sq (decide (((g.dflt.length : Nat) : Int) > 3)) ?_ ?_
  ·exact JM6 trivial
  refine zz2 ?_;refine sq (decide (((g.name.length : Nat) : Int) > 100)) ?_ ?_
  ·exact JM6 trivial
  refine zz2 ?_;apply ik <;> intro hf
  ·rw [if_pos hf] at hinv;subst hinv
   try simp only [go_sem, Nat.reduceAdd, Nat.reduceEqDiff, Nat.reduceBEq, Nat.reduceLeDiff, Int.reduceBEq, reduceCtorEq, ↓reduceIte]
  rw [if_neg (nF hf)] at hinv
  try refine zz2 ?_
  refine JJ (fun r s => ∃ (j : Nat), j ≤ g.dflt.length ∧ r = g.dflt.length - j ∧ g.dflt.all XD = (g.dflt.drop j).all XD ∧
   s = ⟨[(1, .d (.int .i64 d)), (2, .ref 1000 0), (3, .ref 3 0), (9, .d (.int .i64 k)), (10, .ref 10 0), (11, .d (.int .i64 j))], [(1000, .box [.d (.int .i64 Q.2)]), (3, bxT a), (10, bxG g)]⟩) ?_ ?_
  ·exact ⟨_, _, Wk.refl _, 0, Nat.zero_le _, rfl, rfl, rfl⟩
  rintro r s ⟨j, hj, rfl, hinj, rfl⟩;by_cases hlj : j < g.dflt.length
  ·have hxj := Jy hlj;have hdj : decide ((j : Int) < (g.dflt.length : Int)) = true := sO;have c10 := (p10 g.dflt[j]).call trivial;rw [Vq hlj, List.all_cons] at hinj;rw [JA] at c10;simp only [go_sem, hxj, hdj, Vv, Vc, bxT, bxG, Nat.reduceAdd, Nat.reduceEqDiff, Nat.reduceBEq, Nat.reduceLeDiff, Int.reduceBEq, reduceCtorEq, ↓reduceIte];refine ⟨oM, wn c10 ?_⟩;refine zz2 ?_;apply ik <;> intro hg
   ·rw [show XD g.dflt[j] = false by simpa using hg, Bool.false_and] at hinj;rw [if_pos hinj] at hinv;subst hinv
    try simp only [go_sem, Nat.reduceAdd, Nat.reduceEqDiff, Nat.reduceBEq, Nat.reduceLeDiff, Int.reduceBEq, reduceCtorEq, ↓reduceIte]
   ·rw [show XD g.dflt[j] = true by simpa using hg, Vt] at hinj;refine ⟨g.dflt.length - (j + 1), _, oM, Wk.less ?_, j + 1, oM, rfl, hinj, rfl⟩;simp only [go_sem, bxT, bxG, Jj j oM, Nat.reduceAdd, Nat.reduceEqDiff, Nat.reduceBEq, Nat.reduceLeDiff, Int.reduceBEq, reduceCtorEq, ↓reduceIte]
  have hdj : decide ((j : Int) < (g.dflt.length : Int)) = false := sO;obtain rfl : j = g.dflt.length := oM;rw [List.drop_length, List.all_nil] at hinj;rw [if_neg (by rw [hinj]; exact Bool.noConfusion)] at hinv;simp only [go_sem, hdj, Vc, bxT, bxG, Nat.reduceAdd, Nat.reduceEqDiff, Nat.reduceBEq, Nat.reduceLeDiff, Int.reduceBEq, reduceCtorEq, ↓reduceIte];refine ⟨a.fields.length - (k + 1), _, oM, Wk.less ?_, k + 1, Q.2, oM, rfl, hinv, rfl⟩;exact zz66 trivial
 have hd := dF hlt;obtain rfl : k = a.fields.length := oM;rw [List.drop_length, JCv] at hinv;subst hinv;exact zz67 trivial
mutual
theorem JJq : ∀ (a : Typ) (d n : Int), KT 40 [.d (Jk a), .d (.int .i64 d), .ref 1000 0] [(1000, .box [.d (.int .i64 n)])] (.d (.bool (smT a d n).1)) [(1000, .box [.d (.int .i64 (smT a d n).2)])]
 | .mk k i x s w e f, d, n => step40 _ d n (fun x hx d n => JK7 e x hx d n) (fun x hx d n => JK8 f x hx d n)
theorem JK7 : ∀ (l : List Typ), ∀ x ∈ l, ∀ d n, KT 40 [.d (Jk x), .d (.int .i64 d), .ref 1000 0] [(1000, .box [.d (.int .i64 n)])] (.d (.bool (smT x d n).1)) [(1000, .box [.d (.int .i64 (smT x d n).2)])]
 | [], x, h, _, _ => by cases h
 | v :: r, x, h, d, n => by
  by_cases e : x = v
  ·rw [e]; exact JJq v d n
  ·exact JK7 r x ((VA.1 h).resolve_left e) d n
theorem JK8 : ∀ (l : List TFl), ∀ x ∈ l, ∀ d n, KT 40 [.d (Jk x.type), .d (.int .i64 d), .ref 1000 0] [(1000, .box [.d (.int .i64 n)])] (.d (.bool (smT x.type d n).1)) [(1000, .box [.d (.int .i64 (smT x.type d n).2)])]
 | [], x, h, _, _ => by cases h
 | .mk a b c t df :: r, x, h, d, n => by
  by_cases e : x = .mk a b c t df
  ·rw [e]; exact JJq t d n
  ·exact JK8 r x ((VA.1 h).resolve_left e) d n
end
def JGz (a : Typ) : Bool := (smT a 12 200).1
theorem walk11 (a : Typ) : PT 11 [Jk a] (.d (.bool (JGz a))) := by
 refine ok11.pc ?_;have hc := (JJq a 12 200).cnt (ds := [Jk a, .int .i64 12]) 3;rw [JN] at hc ⊢;simp only [go_sem, ir11, simprocAttr];refine wd hc ?_;rfl
theorem wrap1 {n : Int} (h0 : 0 ≤ n) (h1 : n ≤ 1000) : IntKind.i64.wrap (n - 1) = n - 1 := by rw [IntKind.wrap_i64]; omega
mutual
theorem JJr : ∀ (v : Val) (d n : Int), 0 ≤ n → n ≤ 1000 → (smV v d n).1 = true → 0 ≤ (smV v d n).2 ∧ (szV v : Int) + (smV v d n).2 ≤ n ∧ okT v
 | .mk k i s t l f, d, n, h0, h1, h => by
  rw [smV] at h ⊢;rw [wrap1 h0 h1] at h ⊢;split at h
  ·cases h
  rename_i hb;rw [if_neg hb];simp only [Vx, decide_eq_true_eq, not_or, Int.not_lt] at hb;obtain ⟨⟨b1, b2⟩, b3⟩ := hb;split at h
  ·rename_i hs;rw [if_pos hs];obtain ⟨a1, a2, a3⟩ := JK9 l _ (n - 1) oM oM hs;have hlen := YA l;obtain ⟨c1, c2, c3⟩ := JLA f _ _ a1 oM h;refine ⟨c1, ?_, ?_⟩
   ·simp only [szV];omega
   ·exact ⟨oM, a3, c3⟩
  ·cases h
theorem JK9 : ∀ (l : List Val) (d n : Int), 0 ≤ n → n ≤ 1000 → (JAo l d n).1 = true → 0 ≤ (JAo l d n).2 ∧ (UH l : Int) + (JAo l d n).2 ≤ n ∧ JLw l
 | [], d, n, h0, h1, h => by
  rw [JAo];exact ⟨h0, by simp [UH], trivial⟩
 | v :: r, d, n, h0, h1, h => by
  rw [JAo] at h ⊢;split at h
  ·rename_i hs;rw [if_pos hs];obtain ⟨a1, a2, a3⟩ := JJr v d n h0 h1 hs;obtain ⟨c1, c2, c3⟩ := JK9 r d _ a1 oM h;refine ⟨c1, ?_, a3, c3⟩;simp only [UH];omega
  ·cases h
theorem JLA : ∀ (l : List Fld) (d n : Int), 0 ≤ n → n ≤ 1000 → (JB8 l d n).1 = true → 0 ≤ (JB8 l d n).2 ∧ (Xa l : Int) + (JB8 l d n).2 ≤ n ∧ JLx l
 | [], d, n, h0, h1, h => by
  rw [JB8];exact ⟨h0, by simp [Xa], trivial⟩
 | .mk s v :: r, d, n, h0, h1, h => by
  rw [JB8] at h ⊢;split at h
  ·cases h
  rename_i hb;rw [if_neg hb];simp only [decide_eq_true_eq, Int.not_lt] at hb;split at h
  ·rename_i hs;rw [if_pos hs];obtain ⟨a1, a2, a3⟩ := JJr v d n h0 h1 hs;obtain ⟨c1, c2, c3⟩ := JLA r d _ a1 oM h;refine ⟨c1, ?_, oM, a3, c3⟩;simp only [Xa];omega
  ·cases h
end
theorem JF2 {v : Val} (h : XD v = true) : szV v ≤ 300 ∧ okT v := by
 obtain ⟨a, b, c⟩ := JJr v 12 300 dC dC h;exact ⟨oM, c⟩
mutual
theorem JJs : ∀ (v : Typ) (d n : Int), 0 ≤ n → n ≤ 1000 → (smT v d n).1 = true → 0 ≤ (smT v d n).2 ∧ (szT v : Int) + (smT v d n).2 ≤ n ∧ okY v
 | .mk k i x s w e f, d, n, h0, h1, h => by
  rw [smT] at h ⊢;rw [wrap1 h0 h1] at h ⊢;split at h
  ·cases h
  rename_i hb;rw [if_neg hb];simp only [Vx, decide_eq_true_eq, not_or, Int.not_lt] at hb;obtain ⟨⟨b1, b2⟩, b3⟩ := hb;split at h
  ·cases h
  rename_i hb4;rw [if_neg hb4];split at h
  ·rename_i hs;rw [if_pos hs];obtain ⟨a1, a2, a3⟩ := JLB e _ (n - 1) oM oM hs;obtain ⟨c1, c2, c3⟩ := JLC f _ _ a1 oM h;refine ⟨c1, ?_, a3, c3⟩;simp only [szT];omega
  ·cases h
theorem JLB : ∀ (l : List Typ) (d n : Int), 0 ≤ n → n ≤ 1000 → (JAq l d n).1 = true → 0 ≤ (JAq l d n).2 ∧ (JIS l : Int) + (JAq l d n).2 ≤ n ∧ JPr l
 | [], d, n, h0, h1, h => by
  rw [JAq];exact ⟨h0, by simp [JIS], trivial⟩
 | v :: r, d, n, h0, h1, h => by
  rw [JAq] at h ⊢;split at h
  ·rename_i hs;rw [if_pos hs];obtain ⟨a1, a2, a3⟩ := JJs v d n h0 h1 hs;obtain ⟨c1, c2, c3⟩ := JLB r d _ a1 oM h;refine ⟨c1, ?_, a3, c3⟩;simp only [JIS];omega
  ·cases h
theorem JLC : ∀ (l : List TFl) (d n : Int), 0 ≤ n → n ≤ 1000 → (JCv l d n).1 = true → 0 ≤ (JCv l d n).2 ∧ (JFP l : Int) + (JCv l d n).2 ≤ n ∧ JJp l
 | [], d, n, h0, h1, h => by
  rw [JCv];exact ⟨h0, by simp [JFP], trivial⟩
 | .mk nu nm ne t df :: r, d, n, h0, h1, h => by
  rw [JCv] at h ⊢;split at h
  ·cases h
  rename_i hb;rw [if_neg hb];split at h
  ·cases h
  rename_i hb4;rw [if_neg hb4];simp only [Vx, Bool.not_eq_true', decide_eq_true_eq, not_or, Int.not_lt, Bool.not_eq_false] at hb;obtain ⟨⟨b1, b2⟩, b3⟩ := hb;have hall : df.all XD = true := sX hb4;obtain ⟨a1, a2, a3⟩ := JJs t d n h0 h1 b1;obtain ⟨c1, c2, c3⟩ := JLC r d _ a1 oM h;refine ⟨c1, ?_, ⟨oM, a3, fun y hy => (JF2 (List.all_eq_true.1 hall y hy)).2⟩, c3⟩;simp only [JFP];omega
end
theorem JL0 {t : Typ} (h : JGz t = true) : szT t ≤ 200 ∧ okY t := by
 obtain ⟨a, b, c⟩ := JJs t 12 200 dC dC h;exact ⟨oM, c⟩
theorem JT.at {f : Nat} {ds : List Dat} {env : Val} {x y : Int} {v : Av} (h : JT f ds env x v y) (hv : JU v) (i : Nat) : CT f (.ref i 0 :: ds.map .d) [(i, some (mO env x))] v [(i, mO env y)] := Con.rw1 h hv i
def JIa (c k : Int) (v : Val) (y : Int) : Val × Int := if c != 0 then (zeroV, c) else if k != 9 then (zeroV, 11) else if y != 0 then (zeroV, y) else (v, 0)
theorem walk18 (e : Exp) (env v : Val) (y : Int) (hv : okV v) (h : JT 54 [JL e] env 0 (.d (JB v)) y) :
  PT 18 [JL e, JB env] (.tup [.d (JB (JIa (JEi e) env.kind v y).1), .d (.int .i64 (JIa (JEi e) env.kind v y).2)]) := by
 refine ok18.pc ?_;have c53 := (JOW e).call trivial;have c54 := h.at trivial 21;have c55 := (JCd v hv).call trivial;generalize hT : JIa (JEi e) env.kind v y = T;unfold JIa at hT;generalize JEi e = c at *;rw [JE] at c53 c54 ⊢;rw [JA v] at c54 c55;rw [JA env, JA T.1];simp only [go_sem, ir18, simprocAttr];refine wc c53 ?_;apply ik <;> intro h0
 ·rw [if_pos h0] at hT;subst hT
  first | exact ⟨rfl, rfl⟩ | exact rfl
 rw [if_neg (nF h0)] at hT
 try refine zz ?_
 apply ik <;> intro h1
 ·rw [if_pos h1] at hT;subst hT
  first | exact ⟨rfl, rfl⟩ | exact rfl
 rw [if_neg (nF h1)] at hT
 try refine zz ?_
 refine wn c54 ?_;refine zz1 ?_;apply ik <;> intro h2
 ·rw [if_pos h2] at hT;subst hT
  first | exact ⟨rfl, rfl⟩ | exact rfl
 rw [if_neg (nF h2)] at hT;subst hT
 try refine zz ?_
 refine wc c55 trivial
end Go.Proofs
namespace Go.Proofs
open Go Av Go.RowKit Go.Shelf
variable {g N k : Nat} {xs : List UInt8} {w : World}
def JIb (g : Nat) (xs : List UInt8) (N : Nat) (w : World) : Prop := ∃ tl : List Value, w.heap[g]? = some (.cells ((xs.map fun b => Value.int .u8 b.toNat) ++ tl).toArray 5 (N, N + 1)) ∧ N = xs.length + tl.length
theorem JIb.cell (h : JIb g xs N w) (hk : k < xs.length) : w.cell? ⟨g, k, none⟩ = some (.int .u8 (xs.getD k 0).toNat) := by
 obtain ⟨tl, h, _⟩ := h;simp [World.cell?, h, List.getElem?_append, hk, List.getD]
theorem JIb.frozen (h : JIb g xs N w) (hk : k < xs.length) : w.frozen? ⟨g, k, none⟩ = false := by
 obtain ⟨tl, h, hN⟩ := h;have : k < N := oM;simp [World.frozen?, h];omega
theorem JIb.set (h : JIb g xs N w) (hk : k < xs.length) (b : UInt8) : JIb g (xs.set k b) N (w.setCell ⟨g, k, none⟩ (.int .u8 b.toNat)) := by
 obtain ⟨tl, h, hN⟩ := h;refine ⟨tl, ?_, by simpa using hN⟩;simp only [World.setCell, Array.getElem?_modify, h, if_true, Vj];congr 2;apply Array.ext';simp [List.map_set, List.set_append, hk]
theorem JPw (s : Str) (f : Nat) (d : Int) (hk : k < s.length) :
  Ug (s.take (k + 1)) f d ++ s.drop (k + 1) = (Ug (s.take k) f d ++ s.drop k).set k (sftB f d (s.getD k 0)) := by
 have e1 : (Ug (s.take k) f d).length = k := by simp [Ug]; omega
 have e2 : s.drop k = s.getD k 0 :: s.drop (k + 1) := by
  rw [Vq hk];simp [List.getD, Vl hk]
 rw [List.set_append_right _ _ oM, e1, Nat.sub_self, e2, List.set_cons_zero];have e3 : s.take (k + 1) = s.take k ++ [s.getD k 0] := by
  rw [List.take_add_one, Vl hk];simp [List.getD, Vl hk]
 rw [e3];simp [Ug]
theorem JSh (s : Str) (f : Nat) (d : Int) (hk : k < s.length) : (Ug (s.take k) f d ++ s.drop k).getD k 0 = s.getD k 0 := by
 have e1 : (Ug (s.take k) f d).length = k := by simp [Ug]; omega
 rw [List.getD_eq_getElem?_getD, Vy oM, e1, Nat.sub_self];simp [List.getD]
theorem JPx {α : Type} (l : List α) (k : Nat) (z : α) (h : k < l.length) : l.set k (l.getD k z) = l := by
 apply List.ext_getElem sP;intro i h1 h2;rw [List.getElem_set];split
 ·rename_i e; subst e; simp [List.getD, Vl h]
 ·rfl
set_option maxHeartbeats 6400000 in
set_option maxRecDepth 1000000 in
theorem JL1 (s : Str) (f : Nat) (d : Int) (w : World) (hf : f < 230) (hd : ∀ c : Nat, f ≤ c → c < f + 26 → 0 ≤ (c : Int) + d ∧ (c : Int) + d < 256) (hd2 : -1000 ≤ d ∧ d ≤ 1000) (hl : s.length ≤ 68719476736) :
  Calls Tryz.prog 241 #[.string ⟨s.toArray⟩, .int .u8 f, .int .i64 d] w fun e w' => e = .returned (.string ⟨(Ug s f d).toArray⟩) ∧ Below w.heap.size w w' := by
 have hconv := run_bytes_of_string (P := Tryz.prog) w 9 215 5 ⟨s.toArray⟩ Tryz.underlying9 Tryz.underlying215 Tryz.underlying5;have hss : (⟨s.toArray⟩ : ByteArray).size = s.length := rfl;rw [hss] at hconv;generalize hcp : grownCap w s.length 0 5 = cap at hconv
 go_enter Tryz.func241, Tryz.ntmps241
 go_wp2
 go_loopw [14] (fun i wr => ∃ k : Nat, k ≤ s.length ∧ i = .int .i64 k ∧ (∃ N, JIb w.heap.size (Ug (s.take k) f d ++ s.drop k) N wr) ∧ Below w.heap.size w wr) (fun i wr => s.length - (intOf i).toNat)
 case atStart =>
  refine ⟨0, Nat.zero_le _, rfl, ⟨(bytesRow ⟨s.toArray⟩ cap).size, List.replicate (cap - s.length) (.int .u8 0), ?_, ?_⟩, ((Below.refl _ w).drew).alloc (Nat.le_refl _) _⟩
  ·have e : (((Ug (s.take 0) f d ++ s.drop 0).map fun b => Value.int .u8 b.toNat) ++ List.replicate (cap - s.length) (Value.int .u8 0)).toArray = bytesRow ⟨s.toArray⟩ cap := by
    apply Array.ext';simp [bytesRow, Ug];rfl
   rw [e];exact Ur w _
  ·simp [bytesRow, Ug];rfl
 case round =>
  obtain ⟨k, hk, rfl, ⟨N, hB⟩, hbw⟩ := hrel;by_cases hlt : k < s.length
  ·have hlen : (Ug (s.take k) f d ++ s.drop k).length = s.length := by simp [Ug]; omega
   have hkl : k < (Ug (s.take k) f d ++ s.drop k).length := oM;have hc := hB.cell hkl;have hfz := hB.frozen hkl;have hgd := JSh s f d hlt;have hst := JPw s f d hlt;rw [hgd] at hc;have hcl : (s.getD k 0).toNat < 256 := UInt8.toNat_lt _;have hsb : (sftB f d (s.getD k 0)) = if f ≤ (s.getD k 0).toNat ∧ (s.getD k 0).toNat - f < 26 then UInt8.ofNat (((s.getD k 0).toNat : Int) + d).toNat else s.getD k 0 := rfl;generalize hcc : (s.getD k 0).toNat = c at hc hcl hsb;by_cases hin : f ≤ c ∧ c < f + 26
   ·have hdd := hd c hin.1 hin.2;obtain ⟨e, he⟩ : ∃ e : Nat, (c : Int) + d = (e : Int) := ⟨((c : Int) + d).toNat, oM⟩;rw [if_pos ⟨hin.1, oM⟩, he, Vv] at hsb;have hB2 := hB.set hkl (UInt8.ofNat e);have hen : (UInt8.ofNat e).toNat = e := by
     rw [UInt8.toNat_ofNat'];omega
    rw [hen, ← hsb, ← hst] at hB2
    go_wp2
    all_goals first
     | (exfalso; omega)
     | (refine ⟨⟨k + 1, oM, rfl, ⟨N, hB2⟩, hbw.setCell (Nat.le_refl _) _⟩, by simp [intOf]; omega⟩)
   ·rw [if_neg oM] at hsb;have hB2 := hB;rw [← JPx _ k 0 hkl, hgd, ← hsb, ← hst] at hB2
    go_wp2
    all_goals first
     | (exfalso; omega)
     | (refine ⟨⟨k + 1, oM, rfl, ⟨N, hB2⟩, hbw⟩, by simp [intOf]; omega⟩)
  ·have hkl : k = s.length := oM;subst hkl;rw [List.take_length, List.drop_length, List.append_nil] at hB;have hsl : (Ug s f d).length = s.length := by simp [Ug]
   have hback := run_convert_bytes_back (P := Tryz.prog) wr 215 9 5 ⟨w.heap.size, 0, none⟩ cap (Ug s f d) Tryz.underlying215 Tryz.underlying5 Tryz.underlying9 (fun j hj => by
    have := hB.cell hj;have e1 : ((⟨w.heap.size, 0, none⟩ : Addr).add j) = ⟨w.heap.size, j, none⟩ := by
     simp only [Addr.add, Nat.zero_add];split
     ·rename_i e; rw [e]
     ·rfl
    rw [e1, this];simp [List.getD, Vl hj])
   rw [hsl] at hback
   go_wp2
   go_ret
   exact ⟨rfl, hbw⟩
theorem JPy (s : Str) (f : Nat) (d : Int) (hf : f < 230) (hd : ∀ c : Nat, f ≤ c → c < f + 26 → 0 ≤ (c : Int) + d ∧ (c : Int) + d < 256) (hd2 : -1000 ≤ d ∧ d ≤ 1000) :
  CT 241 [.d (.str s), .d (.int .u8 f), .d (.int .i64 d)] [] (.d (.str (Ug s f d))) [] := by
 refine JQ.JE6 (ds := [.str s, .int .u8 f, .int .i64 d]) (JHu Tryz.func241 kR kR) ?_;intro A w vs hsz hv;obtain ⟨x, y, z, rfl⟩ : ∃ x y z, vs = #[x, y, z] := by
  have h3 : 3 = vs.size := hsz;refine ⟨vs[0], vs[1], vs[2], ?_⟩;apply Array.ext
  ·simp [← h3]
  ·intro i h1 h2;have : i = 0 ∨ i = 1 ∨ i = 2 := oM;rcases this with rfl | rfl | rfl <;> rfl
 have hx := hv 0 _ x rfl rfl;have hy := hv 1 _ y rfl rfl;have hz := hv 2 _ z rfl rfl;cases hx with
 | str _ hl =>
  cases hy;cases hz;refine (JL1 s f d w hf hd hd2 hl).mono ?_;rintro e w' ⟨rfl, hb⟩;exact ⟨_, rfl, hb, fun β H => .d _ _ (.str _ (by simpa [Ug] using hl))⟩
theorem JSi : JLs := ⟨fun s => JPy s 65 32 oM (fun c h1 h2 => by omega) oM, fun s => JPy s 97 (-32) oM (fun c h1 h2 => by omega) oM⟩
end Go.Proofs
