/- Part M of a proof. -/
import Derived.Test.YtholoaojlcnacaaGreatDoorFtK
import Derived.Test.YtholoaojlcnacaaGreatDoorFtL
import Derived.Test.YtholoaojlcnacaaGreatDoorFtC
import Derived.Test.YtholoaojlcnacaaGreatDoorFtA
import Derived.Test.YtholoaojlcnacaaGreatDoorFtH
set_option linter.unusedVariables false
set_option linter.unusedSimpArgs false
set_option linter.unusedSectionVars false
set_option maxRecDepth 10000
namespace Go.Proofs
open Go Av
theorem JL4 {m : List Rule} (h : JCq m = true) : m.length ≤ 12 := by
 unfold JCq at h;simp only [Vi, Bool.not_eq_true', decide_eq_false_iff_not] at h;omega
theorem walk3 (m : List Rule) (env : Val) (t : Typ) (hm : okM m) : PT 3 [Yv m, JB env, Jk t] (.d (.bool true)) := by
 refine ok3.pc ?_;have c8 := walk8.call trivial;have c9 := (walk9 m hm).call trivial;have c10 := (p10 env).call trivial;have c11 := (walk11 t).call trivial;simp only [Yv] at c9;rw [JA env] at c10;rw [JN t] at c11;simp only [Yv];rw [JA env, JN t];simp only [go_sem, ir3, simprocAttr];refine wn c8 ?_;simp only [go_sem, Vr, simprocAttr];refine wd c9 ?_;refine sq (!XD env) ?_ ?_
 ·refine zz2 ?_;refine wd c10 trivial
 refine zz2 ?_;refine sq (!JGz t) ?_ ?_
 ·refine zz2 ?_;refine wd c11 trivial
 refine zz2 ?_;apply ik <;> intro h
 ·try refine zz2 ?_
  refine wd c8 trivial
 have hs : JCq m = true ∧ XD env = true ∧ JGz t = true := by
  simp only [Bool.or_eq_false_iff, Bool.not_eq_false'] at h;exact ⟨h.1.1, h.1.2, h.2⟩
 obtain ⟨s1, s2, s3⟩ := hs;have hl := JL4 s1;obtain ⟨z1, z2⟩ := JF2 s2;obtain ⟨z3, z4⟩ := JL0 s3;obtain ⟨ap, a1, a2, _⟩ := JP4 env t z1 z2 z3 z4;have c12 := (a1 m hl).call (by simp [JU]);obtain ⟨b1, b2⟩ := a2 m hl;generalize ap m = R at *;have c13 := (JAC R.1).call trivial;have c14 := fun hn => (JPt t R.1 oM z4 hn).call trivial
 have c15 := (JJX R.1).call trivial;simp only [Yv] at c12;rw [JA env, JN t, JA R.1] at c12;rw [JA R.1] at c13 c15;rw [JA R.1, JN t] at c14
 try refine zz2 ?_
 refine wd c12 ?_;apply ik <;> intro he
 ·have hz := b2 (sX he);have hn : Uh R.1 = true := by rw [hz]; rfl
  rw [hn] at c13
  try refine zz2 ?_
  refine wd c13 trivial
 ·obtain ⟨f1, f2, f3, f4⟩ := b1 (sX he);have c14 := c14 f4;rw [f1] at c14;rw [f2] at c15
  try refine zz2 ?_
  refine wd c14 ?_;refine wn c15 ?_;simp only [go_sem, f3, simprocAttr]
end Go.Proofs
namespace Go.Proofs.YtholoaojlcnacaaGreatDoor
open Go Go.Proofs Av Go.ChangeShapes Go.WideShapes Go.ChangeAt Go.RowKit
theorem JL5 (H : Type) (enc : TypeId × Value → H) (W : World) (base : Nat) (args : Array Value) (ds gs : List (DataW H)) (before : List MemPlace)
  (hval : ∀ (j : Nat) t v, Tryz.f3.params[j]? = some t → args[j]? = some v → Value.okWide Tryz.prog W .any base t v)
  (hW : DataW.Whole enc Tryz.prog Tryz.f3.params.toList Rows.mappingFitsSpec.vars false W args.toList ds gs before) (hk : Rows.uptoSmall H (ds ++ gs) = true) (hL : laidMetH Tryz.prog Rows.mappingFitsUptoRow.laid W) :
  Calls Tryz.prog 3 args W fun e W' => ∃ v, e = .returned v ∧ Rows.mappingFitsSpec.post enc Tryz.prog Tryz.f3 false true false false W args v W' := by
 have hW' := hW;have hk' : Rows.uptoBulkAll (ds ++ gs) ≤ 1048576 := of_decide_eq_true hk;rw [JHn] at hk';obtain ⟨p, q, hA0, hV, rfl, hfz, hnd⟩ := hW;have hA : DataW.TrodAll enc Tryz.prog W 0 (fun _ => true) true Tryz.f3.params.toList args.toList ds p := hA0;rw [Tryz.params3] at hA hval;obtain ⟨v0, vs0, d0, ds0, p0, q0, hargs, rfl, rfl, h0, r0⟩ := trodAll_cons hA;obtain ⟨v1, vs1, d1, ds1, p1, q1, hargs1, rfl, rfl, h1, r1⟩ := trodAll_cons r0;obtain ⟨v2, vs2, d2, ds2, p2, q2, hargs2, rfl, rfl, h2, r2⟩ := trodAll_cons r1;obtain ⟨rfl, rfl, rfl⟩ := trodAll_nil r2;subst hargs1 hargs2;obtain rfl : args = #[v0, v1, v2] := by cases args; simp_all
 obtain ⟨rfl, rfl⟩ := trodVars_none hV;simp only [Rows.uptoBulkAll] at hk';obtain ⟨m, hm, rm⟩ := JJB (hval 0 24 v0 rfl rfl) h0 oM;obtain ⟨a, ra⟩ := JJC (hval 1 28 v1 rfl rfl) h1 oM;obtain ⟨t, rt⟩ := JJD (hval 2 33 v2 rfl rfl) h2 oM;refine (JFJ (walk3 m a t hm) (vs := #[v0, v1, v2]) (globs hL) rfl ?_).mono ?_
 ·intro i d v hd hv
  match i, hd, hv with
  | 0, hd, hv => cases hd; cases hv; exact rm
  | 1, hd, hv => cases hd; cases hv; exact ra
  | 2, hd, hv => cases hd; cases hv; exact rt
 ·rintro e W' ⟨rfl, hbel⟩;have hlt : ∀ x ∈ p0 ++ (p1 ++ (p2 ++ [])), x.block < W.heap.size := fun x hx => by simpa using hW'.lt x (sX hx)
  refine ⟨.bool true, rfl, [d0, d1, d2], [], _, [], p0 ++ (p1 ++ (p2 ++ [])), [], hW', ?_, ?_, ?_, hbel.frame _, fun h => by cases h⟩
  ·exact trodAll_mk1 (shut_bool kR _)
  ·have a0 := Below.trod laidOut kR (of_decide_eq_true kR) h0 hbel (fun x hx => hlt x (by simp [hx]));have a1 := Below.trod laidOut kR (of_decide_eq_true kR) h1 hbel (fun x hx => hlt x (by simp [hx]));have a2 := Below.trod laidOut kR (of_decide_eq_true kR) h2 hbel (fun x hx => hlt x (by simp [hx]));show DataW.TrodAll enc Tryz.prog W' 0 _ true Tryz.f3.params.toList [v0, v1, v2] [d0, d1, d2] _;rw [Tryz.params3];exact trodAll_cons_mk a0 (trodAll_cons_mk a1 (trodAll_cons_mk a2 trodAll_mk0))
  ·rfl
end Go.Proofs.YtholoaojlcnacaaGreatDoor
