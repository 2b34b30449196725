/- Part K of a proof. -/
import Derived.Test.YtholoaojlcnacaaGreatDoorOrJ
import Derived.Test.YtholoaojlcnacaaGreatDoorOrI
import Derived.Test.YtholoaojlcnacaaGreatDoorFtC
import Derived.Test.YtholoaojlcnacaaGreatDoorFtA
import Derived.Test.YtholoaojlcnacaaGreatDoorFtD
import Derived.Lib.Bytealg
set_option linter.unusedVariables false
set_option linter.unusedSimpArgs false
set_option linter.unusedSectionVars false
set_option maxRecDepth 10000
namespace Go.Proofs
open Go Av
variable {n : Str} {v : Val}
theorem JSj (e : Exp) (env : Val) (h : JEi e ≠ 0) : PT 18 [JL e, JB env] (.tup [.d (JB zeroV), .d (.int .i64 (JEi e))]) := by
 refine ok18.pc ?_;have c53 := (JOW e).call trivial;generalize JEi e = c at *;rw [JE] at c53 ⊢;rw [JA env, JA zeroV];have hc : (c != 0) = true := sX h;simp only [go_sem, ir18, simprocAttr];refine wn c53 ?_;simp only [go_sem, hc, simprocAttr]
 first | exact ⟨rfl, rfl⟩ | exact rfl | skip
theorem ev_all (env : Val) (hz : szV env ≤ 1000) (hT : okT env) : ∃ ev : Exp → Val × Int, ∀ e, PT 18 [JL e, JB env] (.tup [.d (JB (ev e).1), .d (.int .i64 (ev e).2)]) ∧ szV (ev e).1 ≤ 1000000 ∧ nmV (ev e).1 := by
 have h : ∀ e : Exp, ∃ R : Val × Int, PT 18 [JL e, JB env] (.tup [.d (JB R.1), .d (.int .i64 R.2)]) ∧ szV R.1 ≤ 1000000 ∧ nmV R.1 := by
  intro e;have hz0 : szV zeroV ≤ 1000000 := dC;by_cases h : JEi e = 0
  ·obtain ⟨v, y, hm, hg⟩ := evl_ex JSH JSi env hz hT 8 0 e dC h 0;refine ⟨_, walk18 e env v y (JAh hg) hm, ?_⟩;unfold JIa;split
   ·exact ⟨hz0, X0⟩
   split
   ·exact ⟨hz0, X0⟩
   split
   ·exact ⟨hz0, X0⟩
   ·exact ⟨hg.1, hg.2.2⟩
  ·exact ⟨(zeroV, JEi e), JSj e env h, hz0, X0⟩
 exact ⟨fun e => Classical.choose (h e), fun e => Classical.choose_spec (h e)⟩
theorem JAL : ∀ a b : List Fld, Xa (a ++ b) = Xa a + Xa b
 | [], b => by simp [Xa]
 | .mk n v :: r, b => by simp only [List.cons_append, Xa, JAL r b]; omega
theorem JCw (x : Fld) (r : List Fld) : Xa (x :: r) = szV x.value + Xa r := by cases x; rfl
theorem JIc : ∀ (l : List Fld) (i : Nat) (h : i < l.length) (x : Fld), Xa (l.set i x) + szV l[i].value = Xa l + szV x.value
 | y :: r, 0, h, x => by
  simp only [List.set_cons_zero, JCw, List.getElem_cons_zero];omega
 | y :: r, i + 1, h, x => by
  have := JIc r i (sX h) x;simp only [List.set_cons_succ, JCw, List.getElem_cons_succ];omega
theorem JPz (l : List Fld) (i : Nat) (x : Fld) : Xa (l.take i ++ x :: l.drop i) = Xa l + szV x.value := by
 have e : Xa l = Xa (l.take i) + Xa (l.drop i) := by rw [← JAL, List.take_append_drop]
 rw [JAL, JCw, e];omega
theorem JG0 {l : List Fld} {i : Nat} (e : U6 n l = some i) : i < l.length := by
 obtain ⟨h, _⟩ := List.findIdx?_eq_some_iff_getElem.1 e;exact h
theorem JL2 (v : Val) (n : Str) : szV (UY v n) ≤ szV v := by
 have hp := ZY v;have h0 : szV UB = 1 := rfl;unfold UY;split
 ·omega
 ·cases e : U6 n v.fields with
  | none => simp only; omega
  | some i =>
   have hil := JG0 e;simp only [Vl hil, Vj, Vp];have := JBv (Vk hil);have e2 := JBB v;omega
theorem JLD (v y : Val) (n : Str) : szV (Xn v n y).1 + szV (UY v n) ≤ szV v + szV y + 1 := by
 have hf := JL2 v n;have hy := ZY y;have hz : szV zeroV = 1 := rfl;have h0 : szV UB = 1 := rfl;have ev := JBB v;unfold Xn;split
 ·simp only; omega
 rename_i hk;split
 ·simp only; omega
 split
 ·simp only; omega
 ·unfold UY;rw [if_neg hk];cases e : U6 n v.fields with
  | none =>
   simp only;split
   ·simp only; omega
   ·simp only [szV, JPz];have : (Fld.mk n y).value = y := rfl;rw [this];omega
  | some i =>
   have hil := JG0 e;simp only [Vl hil, Vj, Vp, szV];have := JIc v.fields i hil (.mk v.fields[i].name y);have e3 : (Fld.mk v.fields[i].name y).value = y := rfl;rw [e3] at this;omega
theorem JP0 : ∀ (l : List Part) (v x : Val), szV (XJ l v x).1 ≤ szV v + szV x + l.length
 | [], v, x => by rw [XJ]; simp only; omega
 | p :: r, v, x => by
  have ih := JP0 r (UY v p.name) x;have h1 := JLD v x p.name;have h2 := JLD v (XJ r (UY v p.name) x).1 p.name;have h3 := ZY (UY v p.name);have hx := ZY x;have hv := ZY v;have hz : szV zeroV = 1 := rfl;rw [XJ];simp only [Vf];split
  ·simp only; omega
  split
  ·omega
  split
  ·simp only; omega
  ·omega
theorem JP1 (h : XK n = true) : n.length ≤ 32 := by
 unfold XK at h;simp only [Vi, Bool.not_eq_true', Bool.or_eq_false_iff, decide_eq_false_iff_not] at h;have := h.1.1.1.2;omega
theorem JG1 : nmV UB := ⟨trivial, trivial⟩
theorem JL3 (h : nmV v) (n : Str) : nmV (UY v n) := by
 have hf := ((JBK v).1 h).2;unfold UY;split
 ·exact JG1
 ·cases e : U6 n v.fields with
  | none => exact JG1
  | some i =>
   have hil := JG0 e;simp only [Vl hil, Vj, Vp];exact (XE hf _ (Vk hil)).2
theorem JLE {y : Val} (n : Str) (hv : nmV v) (hy : nmV y) : nmV (Xn v n y).1 := by
 obtain ⟨n1, n2⟩ := (JBK v).1 hv;unfold Xn;split
 ·exact X0
 split
 ·exact X0
 rename_i hn;have hn' : n.length ≤ 32 := JP1 (sX hn);split
 ·exact X0
 ·cases e : U6 n v.fields with
  | none =>
   simp only;split
   ·exact X0
   ·refine JIZ n1 (JCE fun x hx => ?_);rcases List.mem_append.1 hx with hx | hx
    ·exact XE n2 x (List.mem_of_mem_take hx)
    rcases VA.1 hx with rfl | hx
    ·exact ⟨by show n.length ≤ 4096; omega, hy⟩
    ·exact XE n2 x (List.mem_of_mem_drop hx)
  | some i =>
   have hil := JG0 e;simp only [Vl hil, Vj, Vp];refine JIZ n1 (JCE fun x hx => ?_);rcases List.mem_or_eq_of_mem_set hx with hx | rfl
   ·exact XE n2 x hx
   ·exact ⟨(XE n2 _ (Vk hil)).1, hy⟩
theorem JP2 : ∀ (l : List Part) (v x : Val), nmV v → nmV x → nmV (XJ l v x).1
 | [], v, x, hv, _ => hv
 | p :: r, v, x, hv, hx => by
  rw [XJ];split
  ·exact hv
  split
  ·exact JLE _ hv hx
  split
  ·exact X0
  ·exact JLE _ hv (JP2 r _ _ (JL3 hv _) hx)
theorem JF3 {y : Val} (h : (Xn v n y).2 = 0) : (Xn v n y).1.kind = v.kind := by
 unfold Xn at h ⊢;split at h
 ·cases h
 rename_i h1;rw [if_neg h1];split at h
 ·cases h
 rename_i h2;rw [if_neg h2];split at h
 ·cases h
 rename_i h3;rw [if_neg h3];cases e : U6 n v.fields with
 | none =>
  rw [e] at h;simp only at h ⊢;split at h
  ·cases h
  ·rename_i h4;rw [if_neg h4];rfl
 | some i => rfl
theorem JP3 : ∀ (l : List Part) (v x : Val), (XJ l v x).2 = 0 → (XJ l v x).1.kind = v.kind
 | [], v, x, _ => rfl
 | p :: r, v, x, h => by
  rw [XJ] at h ⊢;split at h
  ·rename_i h1;rw [if_pos h1]
  rename_i h1;rw [if_neg h1];split at h
  ·rename_i h2;rw [if_pos h2];exact JF3 h
  rename_i h2;rw [if_neg h2];split at h
  ·rename_i h3; exact absurd h h3
  ·rename_i h3;rw [if_neg h3];exact JF3 h
theorem JG2 {ev : Exp → Val × Int} {rq : List Part → Bool} {B : Nat} (hev : ∀ e, szV (ev e).1 + 16 ≤ B ∧ nmV (ev e).1) : ∀ (m : List Rule) (out : Val) (full : Int) (ab : Bool), nmV out → (full = 0 → out.kind = 9) →
  szV (UO ev rq m out full ab).1 ≤ szV out + m.length * B ∧ nmV (UO ev rq m out full ab).1 ∧ ((UO ev rq m out full ab).2.1 = 0 → (UO ev rq m out full ab).1.kind = 9)
 | [], out, full, ab, hn, hk => ⟨by simp [UO], hn, hk⟩
 | r :: m, out, full, ab, hn, hk => by
  rw [UO];split
  ·exact ⟨Nat.le_add_right _ _, hn, hk⟩
  split
  ·rename_i hf;obtain ⟨e1, e2⟩ := hev r.expr;have hs := JP0 (JH r.target).1 out (ev r.expr).1;have hp := ZJ r.target;obtain ⟨a, b, c⟩ := JG2 hev m (XJ (JH r.target).1 out (ev r.expr).1).1 (XJ (JH r.target).1 out (ev r.expr).1).2 (ab || (Uh (ev r.expr).1 && rq (JH r.target).1)) (JP2 _ _ _ hn e2)
    (fun h => (JP3 _ _ _ h).trans (hk hf))
   refine ⟨?_, b, c⟩;rw [Vf, Nat.succ_mul];generalize m.length * B = M at *;omega
  ·obtain ⟨a, b, c⟩ := JG2 hev m out full (ab || (Uh (ev r.expr).1 && rq (JH r.target).1)) hn hk;refine ⟨?_, b, c⟩;rw [Vf, Nat.succ_mul];generalize m.length * B = M at *;omega
theorem JP4 (env : Val) (t : Typ) (hz : szV env ≤ 300) (hT : okT env) (hs : szT t ≤ 200) (hy : okY t) : ∃ ap : List Rule → Val × Int,
  (∀ m : List Rule, m.length ≤ 12 → PT 12 [Yv m, JB env, Jk t] (.tup [.d (JB (ap m).1), .d (.int .i64 (ap m).2)])) ∧
  (∀ m : List Rule, m.length ≤ 12 → ((ap m).2 = 0 → JGx 1000 t (ap m).1 = true ∧ JDO (ap m).1 = 0 ∧ (ap m).1.kind = 9 ∧ nmV (ap m).1) ∧ ((ap m).2 ≠ 0 → (ap m).1 = zeroV)) ∧
  ∀ m : List Rule, m.length ≤ 12 → ap m.reverse = ap m ∨ ((ap m).2 ≠ 0 ∧ (ap m.reverse).2 ≠ 0) := by
 obtain ⟨ev, hev⟩ := ev_all env oM hT;have hev2 : ∀ e, szV (ev e).1 ≤ 1000000 ∧ nmV (ev e).1 := fun e => (hev e).2
 have h0 : szV UB = 1 := rfl;have hbd : ∀ m : List Rule, m.length ≤ 12 → szV (UO ev (rqT t) m UB 0 false).1 ≤ 400000000 ∧ nmV (UO ev (rqT t) m UB 0 false).1 ∧ ((UO ev (rqT t) m UB 0 false).2.1 = 0 → (UO ev (rqT t) m UB 0 false).1.kind = 9) := by
  intro m hm;obtain ⟨a, b, c⟩ := JG2 (rq := rqT t) (B := 1000016) (fun e => ⟨Nat.add_le_add_right (hev2 e).1 16, (hev2 e).2⟩) m UB 0 false JG1 (fun _ => rfl);have h12 := Nat.mul_le_mul_right 1000016 hm;exact ⟨Nat.le_trans a (Nat.le_trans (Nat.add_le_add_left h12 _) (by rw [h0]; decide)), b, c⟩
 refine ⟨fun m => JIQ ev JE5 m env t, fun m hm => ?_, fun m hm => ?_, fun m hm => ?_⟩
 ·obtain ⟨a, b, c⟩ := hbd m hm;exact walk12 ev JE5 m env t oM (fun r _ => (hev r.expr).1) (fun _ _ _ => walk45 t _ oM hy b a)
 ·obtain ⟨a, b, c⟩ := hbd m hm;simp only;unfold JIQ;generalize UO ev (rqT t) m UB 0 false = R at *;have hcm : (JE5 t R.1).2 = 0 → JGx 1000 t (JE5 t R.1).1 = true ∧ (JE5 t R.1).1.kind = R.1.kind ∧ nmV (JE5 t R.1).1 := by
   intro h;unfold JE5 at h ⊢;split at h
   ·rename_i h1;rw [if_pos h1];exact ⟨h1, JSg _ _ _, JPv _ _ _ hy b⟩
   ·cases h
  split
  ·rename_i h; exact ⟨fun h2 => absurd h2 h, fun _ => rfl⟩
  split
  ·exact ⟨fun h2 => (by cases h2), fun _ => rfl⟩
  split
  ·rename_i h; exact ⟨fun h2 => absurd h2 h, fun _ => rfl⟩
  split
  ·rename_i h; exact ⟨fun h2 => absurd h2 h, fun _ => rfl⟩
  rename_i hfull;split
  ·exact ⟨fun h2 => (by cases h2), fun _ => rfl⟩
  split
  ·rename_i h; exact ⟨fun h2 => absurd h2 h, fun _ => rfl⟩
  rename_i hc0;split
  ·rename_i h; exact ⟨fun h2 => absurd h2 h, fun _ => rfl⟩
  ·rename_i hch;obtain ⟨k1, k2, k3⟩ := hcm (sX hc0);exact ⟨fun _ => ⟨k1, by simpa using hch, k2.trans (c (sX hfull)), k3⟩, fun h => absurd rfl h⟩
 ·simp only;by_cases hf : XZ m = 0
  ·have hfr : XZ m.reverse = 0 := (JFw m).2 hf;have hfm := ((JAd m).1 hf).2;have hk1 : ¬ (XZ m ≠ 0) := sX hf;have hk2 : ¬ (XZ m.reverse ≠ 0) := sX hfr;unfold JIQ;rw [if_neg hk1, if_neg hk2];by_cases hk : env.kind ≠ 9
   ·rw [if_pos hk, if_pos hk];exact .inl rfl
   rw [if_neg hk, if_neg hk];rcases JOt ev (rqT t) m hfm oM with ⟨a, b⟩ | e
   ·rw [if_pos a, if_pos b];exact .inr ⟨b, a⟩
   ·rw [e];exact .inl rfl
  ·have hfr : XZ m.reverse ≠ 0 := fun h => hf ((JFw m).1 h)
   unfold JIQ;rw [if_pos hf, if_pos hfr];exact .inr ⟨hf, hfr⟩
end Go.Proofs
namespace Go.Proofs
open Go Av
theorem cmpBytes_iff : ∀ (a b : Str), Lib.compareBytes a b = 0 ↔ a = b
 | [], [] => by simp [Lib.compareBytes]
 | [], _ :: _ => by simp [Lib.compareBytes]
 | _ :: _, [] => by simp [Lib.compareBytes]
 | a :: r, b :: s => by
  rw [Lib.compareBytes];by_cases h : a < b
  ·simp only [h, ↓reduceIte, List.cons.injEq];refine ⟨fun h => by omega, fun e => absurd h ?_⟩;rw [e.1]; exact UInt8.lt_irrefl _
  ·by_cases h' : b < a
   ·simp only [h, h', ↓reduceIte, List.cons.injEq];refine ⟨fun h => by omega, fun e => absurd h' ?_⟩;rw [e.1]; exact UInt8.lt_irrefl _
   ·simp only [h, h', ↓reduceIte, List.cons.injEq, cmpBytes_iff r s];have : a = b := UInt8.le_antisymm (UInt8.not_lt.1 h') (UInt8.not_lt.1 h);simp [this]
theorem cmpS_iff (a b : Str) : Z3 a b = 0 ↔ a = b := by
 rw [Z3, Lib.cmp_eq];exact cmpBytes_iff a b
theorem cmpI_iff (a b : Int) : JA6 a b = 0 ↔ a = b := by
 unfold JA6;split
 ·omega
 ·split <;> omega
theorem orI_iff : ∀ (l : List Int), orI l = 0 ↔ ∀ x ∈ l, x = 0
 | [] => by simp [orI]
 | x :: r => by
  rw [orI];by_cases h : x = 0
  ·simp [h, orI_iff r]
  ·simp [h]
mutual
theorem cmpV_iff : ∀ (a b : Val), JA7 a b = 0 ↔ a = b
 | .mk k i s t l f, .mk k' i' s' t' l' f' => by
  rw [JA7, orI_iff];simp only [VA, List.not_mem_nil, or_false, forall_eq_or_imp, forall_eq, cmpI_iff, cmpS_iff, Val.kind, Val.int, Val.scale, Val.text, Val.list, Val.fields, cmpVs_iff l, cmpFs_iff f, Val.mk.injEq]
theorem cmpVs_iff : ∀ (a b : List Val), JEL a b = 0 ↔ a = b
 | [], [] => by simp [JEL]
 | [], _ :: _ => by simp [JEL]
 | _ :: _, [] => by simp [JEL]
 | x :: xs, y :: ys => by
  rw [JEL, List.cons.injEq, ← cmpV_iff x y, ← cmpVs_iff xs ys];by_cases h : JA7 x y = 0
  ·simp [h]
  ·simp [h]
theorem cmpF_iff : ∀ (a b : Fld), JFI a b = 0 ↔ a = b
 | .mk n v, .mk n' v' => by
  rw [JFI, orI_iff];simp only [VA, List.not_mem_nil, or_false, forall_eq_or_imp, forall_eq, cmpS_iff, Fld.name, Fld.value, cmpV_iff v, Fld.mk.injEq]
theorem cmpFs_iff : ∀ (a b : List Fld), JEM a b = 0 ↔ a = b
 | [], [] => by simp [JEM]
 | [], _ :: _ => by simp [JEM]
 | _ :: _, [] => by simp [JEM]
 | x :: xs, y :: ys => by
  rw [JEM, List.cons.injEq, ← cmpF_iff x y, ← cmpFs_iff xs ys];by_cases h : JFI x y = 0
  ·simp [h]
  ·simp [h]
end
end Go.Proofs
