/- Part M of a proof. -/
import Derived.Test.YtholoaojlcnacaaGreatDoorOrK
import Derived.Test.YtholoaojlcnacaaGreatDoorFtL
import Derived.Test.YtholoaojlcnacaaGreatDoorFtC
import Derived.Test.YtholoaojlcnacaaGreatDoorFtA
import Derived.Test.YtholoaojlcnacaaGreatDoorFtH
set_option linter.unusedVariables false
set_option linter.unusedSimpArgs false
set_option linter.unusedSectionVars false
set_option maxRecDepth 10000
namespace Go.Proofs
open Go Av
theorem Ui.callDm {P : Program} {f : Nat} {ds : List Dat} {r : Av} (h : Ui P f (ds.map Dat.canon) r) (hr : JU r) {args : List Av} {T : List (Nat × Option Av.Obj)} {p : Prop} {u : List (Nat × Av.Obj)}
  (hd : ∀ H : Heap, (∀ e ∈ T, H e.1 = e.2) → Jq H args = some (p, ds, u)) (hp : p) : JQ P f args T r u := by
 intro β A w H vs hT hc hvs;obtain ⟨A1, s1, l1, r1, m1⟩ := XW hc (hd H hT) hp (us := vs.toList) (sX hvs.1) (fun i c v h1 h2 => hvs.2 i c v h1 (sX h2));have := h.call hr β A1 w _ vs sP s1.core ⟨by simp at l1 ⊢; omega, fun k c u h1 h2 => by
  rw [List.map_map, Vo] at h1;cases hq : ds[k]? with
  | none => simp [hq] at h1
  | some x =>
   simp only [hq, Vj, Vd, Function.comp] at h1;subst h1;exact .d _ _ (r1 k x u hq (sX h2)).canon⟩
 rcases this with ⟨a1, a2⟩ | ⟨u, w', a1, β', A', a2, a3⟩
 ·refine .inl ⟨a1, a2.mono ?_⟩;rintro e w' ⟨u, rfl, β', A', b1, b2⟩;exact ⟨u, rfl, β', A', s1.trans b1, b2⟩
 ·exact .inr ⟨u, w', a1, β', A', s1.trans a2, a3⟩
theorem JL4 {m : List Rule} (h : JCq m = true) : m.length ≤ 12 := by
 unfold JCq at h;simp only [Vi, Bool.not_eq_true', decide_eq_false_iff_not] at h;omega
theorem walk4 (m : List Rule) (env : Val) (t : Typ) (hm : okM m) : PT 4 [Yv m, JB env, Jk t] (.d (.bool true)) := by
 refine ok4.pc ?_;have c8 := walk8.call trivial;have c9 := (walk9 m hm).call trivial;have c10 := (p10 env).call trivial;have c11 := (walk11 t).call trivial;simp only [Yv] at c9;rw [JA env] at c10;rw [JN t] at c11;simp only [Yv];rw [JA env, JN t];simp only [go_sem, ir4, simprocAttr];refine wn c8 ?_;simp only [go_sem, Vr, simprocAttr];refine wd c9 ?_;refine sq (!XD env) ?_ ?_
 ·refine zz2 ?_;refine wd c10 trivial
 refine zz2 ?_;refine sq (!JGz t) ?_ ?_
 ·refine zz2 ?_;refine wd c11 trivial
 refine zz2 ?_;apply ik <;> intro h
 ·try refine zz2 ?_
  refine wd c8 trivial
 have hs : JCq m = true ∧ XD env = true ∧ JGz t = true := by
  simp only [Bool.or_eq_false_iff, Bool.not_eq_false'] at h;exact ⟨h.1.1, h.1.2, h.2⟩
 obtain ⟨s1, s2, s3⟩ := hs;have hl := JL4 s1;obtain ⟨z1, z2⟩ := JF2 s2;obtain ⟨z3, z4⟩ := JL0 s3;obtain ⟨ap, a1, a2, a3⟩ := JP4 env t z1 z2 z3 z4;have c12 := (a1 m hl).call (by simp [JU]);have p12 := a1 m.reverse (sX hl);obtain ⟨b1, b2⟩ := a2 m hl;obtain ⟨d1, d2⟩ := a2 m.reverse (sX hl);have hrev := a3 m hl;clear a1 a2 a3;generalize ap m = R at *;generalize ap m.reverse = Q at *;have c16 := (p16 R.1 Q.1).call trivial;have heq : (((R.2 == 0) == (Q.2 == 0)) : Bool) = true ∧ R.1 = Q.1 := by
  rcases hrev with e | ⟨e1, e2⟩
  ·rw [e]; simp
  ·refine ⟨?_, by rw [b2 e1, d2 e2]⟩;have g1 : (R.2 == 0) = false := sX e1;have g2 : (Q.2 == 0) = false := sX e2;rw [g1, g2]; rfl
 have hcmp : (JA7 R.1 Q.1 == 0) = true := by
  rw [heq.2, (cmpV_iff Q.1 Q.1).2 rfl];rfl
 rw [hcmp] at c16;simp only [Yv] at c12;rw [JA env, JN t, JA R.1] at c12;rw [JA R.1, JA Q.1] at c16
 try refine zz2 ?_
 have hlen : ((m.map Yg).length : Int) = m.length := by rw [Vc]
 refine JJ (fun n s => ∃ k : Nat, k ≤ m.length ∧ n = m.length - k ∧
  s = ⟨[(3, .ref 3 0), (4, .ref 4 0), (5, .ref 5 0), (7, .ref 7 0), (8, .d (.int .i64 ((m.length : Int) - 1 - k)))],
   [(3, .box [.d (.list 6 (m.map Yg))]), (4, bxV env), (5, bxT t), (7, .box [.ms 47 k]), (47, .row k 6 ((m.reverse.take k).map Yg))]⟩) ?_ ?_
 ·refine ⟨_, _, (Wk.JIe 7 0 47 6 _ rfl rfl rfl dC).trans (Wk.less ?_), 0, Nat.zero_le _, rfl, rfl⟩;have hw : IntKind.i64.wrap ((m.length : Int) - 1) = (m.length : Int) - 1 := by rw [IntKind.wrap_i64]; omega
  simp [put, go_sem, bxV, bxT, hw]
 ·rintro n s ⟨k, hk, rfl, rfl⟩;by_cases hlt : k < m.length
  ·have hj : m.length - 1 - k < m.length := oM;have hx := JBn hj;have hge : decide (((m.length : Int) - 1 - k) ≥ 0) = true := sO;have htn : ((m.length : Int) - 1 - k).toNat = m.length - 1 - k := oM;have hkr : k < m.reverse.length := sX hlt;have htk : (m.reverse.take (k + 1)).map Yg = (m.reverse.take k).map Yg ++ [Yg m[m.length - 1 - k]] := by
    rw [List.take_succ_eq_append_getElem hkr, Vw, List.getElem_reverse];rfl
   have hw : IntKind.i64.wrap ((m.length : Int) - 1 - k - 1) = (m.length : Int) - 1 - ((k + 1 : Nat) : Int) := by rw [IntKind.wrap_i64]; omega
   generalize m[m.length - 1 - k] = r at *;simp only [go_sem, hx, hge, htn, Vc, bxV, bxT, simprocAttr];refine ⟨oM, sP, sO, dC, m.length - (k + 1), _, oM, Wk.less ?_, k + 1, oM, rfl, rfl⟩;rw [htk, Yg];simp only [go_sem, hw, simprocAttr]
  ·have hge : decide (((m.length : Int) - 1 - k) ≥ 0) = false := sO;obtain rfl : k = m.length := oM;have hall : (m.reverse.take m.length).map Yg = m.reverse.map Yg := by rw [List.take_of_length_le sP]
   simp only [go_sem, hge, hall, bxV, bxT, simprocAttr];refine wd c12 ?_;have c12' : CT 12 [.agg [.ms 47 m.length], .d (JB env), .d (Jk t)] [(47, some (.row m.length 6 (m.reverse.map Yg)))] (.tup [.d (JB Q.1), .d (.int .i64 Q.2)]) [(47, .frz m.length 6 (m.reverse.map Yg))] := by
    refine Ui.callDm (ds := [Yv m.reverse, JB env, Jk t]) ?_ (by simp [JU]) (p := (m.length = m.length ∧ True) ∧ True ∧ True ∧ True) (fun H hH => ?_) ⟨⟨rfl, trivial⟩, trivial, trivial, trivial⟩
    ·simp only [Va, Vb, Yv, Dat.canon, Ji, JGO, JA5, JA8];exact p12
    ·have hi : H 47 = some (.row m.length 6 (m.reverse.map Yg)) := hH _ (Vh);simp [Jq, datum, XO, Uj, hi, Yv]
   rw [JA env, JN t, JA Q.1] at c12';refine wn c12' ?_;simp only [go_sem, heq.1, simprocAttr];refine wd c16 trivial
end Go.Proofs
namespace Go.Proofs.YtholoaojlcnacaaGreatDoor
open Go Go.Proofs Av Go.ChangeShapes Go.WideShapes Go.ChangeAt Go.RowKit
theorem contract4 (H : Type) (enc : TypeId × Value → H) (W : World) (base : Nat) (args : Array Value) (ds gs : List (DataW H)) (before : List MemPlace)
  (hval : ∀ (j : Nat) t v, Tryz.f4.params[j]? = some t → args[j]? = some v → Value.okWide Tryz.prog W .any base t v)
  (hW : DataW.Whole enc Tryz.prog Tryz.f4.params.toList Rows.mappingOrderSpec.vars false W args.toList ds gs before) (hk : Rows.uptoSmall H (ds ++ gs) = true) (hL : laidMetH Tryz.prog Rows.mappingOrderUptoRow.laid W) :
  Calls Tryz.prog 4 args W fun e W' => ∃ v, e = .returned v ∧ Rows.mappingOrderSpec.post enc Tryz.prog Tryz.f4 false true false false W args v W' := by
 have hW' := hW;have hk' : Rows.uptoBulkAll (ds ++ gs) ≤ 1048576 := of_decide_eq_true hk;rw [JHn] at hk';obtain ⟨p, q, hA0, hV, rfl, hfz, hnd⟩ := hW;have hA : DataW.TrodAll enc Tryz.prog W 0 (fun _ => true) true Tryz.f4.params.toList args.toList ds p := hA0;rw [Tryz.params4] at hA hval;obtain ⟨v0, vs0, d0, ds0, p0, q0, hargs, rfl, rfl, h0, r0⟩ := trodAll_cons hA;obtain ⟨v1, vs1, d1, ds1, p1, q1, hargs1, rfl, rfl, h1, r1⟩ := trodAll_cons r0;obtain ⟨v2, vs2, d2, ds2, p2, q2, hargs2, rfl, rfl, h2, r2⟩ := trodAll_cons r1;obtain ⟨rfl, rfl, rfl⟩ := trodAll_nil r2;subst hargs1 hargs2;obtain rfl : args = #[v0, v1, v2] := by cases args; simp_all
 obtain ⟨rfl, rfl⟩ := trodVars_none hV;simp only [Rows.uptoBulkAll] at hk';obtain ⟨m, hm, rm⟩ := JJB (hval 0 24 v0 rfl rfl) h0 oM;obtain ⟨a, ra⟩ := JJC (hval 1 28 v1 rfl rfl) h1 oM;obtain ⟨t, rt⟩ := JJD (hval 2 33 v2 rfl rfl) h2 oM;refine (JFJ (walk4 m a t hm) (vs := #[v0, v1, v2]) (globs hL) rfl ?_).mono ?_
 ·intro i d v hd hv
  match i, hd, hv with
  | 0, hd, hv => cases hd; cases hv; exact rm
  | 1, hd, hv => cases hd; cases hv; exact ra
  | 2, hd, hv => cases hd; cases hv; exact rt
 ·rintro e W' ⟨rfl, hbel⟩;have hlt : ∀ x ∈ p0 ++ (p1 ++ (p2 ++ [])), x.block < W.heap.size := fun x hx => by simpa using hW'.lt x (sX hx)
  refine ⟨.bool true, rfl, [d0, d1, d2], [], _, [], p0 ++ (p1 ++ (p2 ++ [])), [], hW', ?_, ?_, ?_, hbel.frame _, fun h => by cases h⟩
  ·exact trodAll_mk1 (shut_bool kR _)
  ·have a0 := Below.trod laidOut kR (of_decide_eq_true kR) h0 hbel (fun x hx => hlt x (by simp [hx]));have a1 := Below.trod laidOut kR (of_decide_eq_true kR) h1 hbel (fun x hx => hlt x (by simp [hx]));have a2 := Below.trod laidOut kR (of_decide_eq_true kR) h2 hbel (fun x hx => hlt x (by simp [hx]));show DataW.TrodAll enc Tryz.prog W' 0 _ true Tryz.f4.params.toList [v0, v1, v2] [d0, d1, d2] _;rw [Tryz.params4];exact trodAll_cons_mk a0 (trodAll_cons_mk a1 (trodAll_cons_mk a2 trodAll_mk0))
  ·rfl
end Go.Proofs.YtholoaojlcnacaaGreatDoor
