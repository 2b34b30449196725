/- Part J of a proof. -/
import Derived.Test.YtokdogomolegnaaGreatDoorZI
import Derived.Test.YtokdogomolegnaaGreatDoorRows
import Derived.OpenShut
import Derived.Carry
import Derived.LaidMore
import Derived.Deep.DeepWitnessRowRef
set_option linter.unusedVariables false
set_option linter.unusedSimpArgs false
set_option linter.unusedSectionVars false
set_option linter.constructorNameAsVariable false
set_option linter.unnecessarySimpa false
set_option maxRecDepth 10000
namespace Go.Proofs.YtokdogomolegnaaGreatDoor
open Go Go.Proofs Av Go.ChangeShapes Go.WideShapes Go.ChangeAt Go.RowKit

def old (w : World) (b : Nat) : Prop := b < w.heap.size
theorem core_old (w : World) (hg : ∀ g cs, globOf g = some cs → GRep (old w) w g cs) : Core (fun _ => (⟨none, []⟩ : BK)) (old w) w (get []) :=
  ⟨(by intro i o hi; cases hi), (by intro i j o o' b hi; cases hi), (by intro i o b hi; cases hi), fun _ h => h, hg⟩

/-- a call with data, from the outside -/
theorem calls_of_pcon {P : Program} {f : Nat} {ds : List Dat} {b : Bool} (h : PCon P f ds (.d (.bool b))) {w : World} {vs : Array Value} (hg : ∀ g cs, globOf g = some cs → GRep (old w) w g cs) (hl : ds.length = vs.size)
    (hv : ∀ (i : Nat) d v, ds[i]? = some d → vs[i]? = some v → Rep (old w) w d v) :
    Calls P f vs w fun e w' => e = .returned (.bool b) ∧ Below w.heap.size w w' := by
  refine (h.2 (fun _ => (⟨none, []⟩ : BK)) (old w) w vs (core_old w hg) ⟨by simpa using hl, ?_⟩).mono ?_
  · intro i c v hc hv'
    rw [List.getElem?_map] at hc
    cases e : ds[i]? with
    | none => rw [e] at hc; cases hc
    | some d =>
      rw [e] at hc
      cases hc
      exact .d _ _ (hv i d v e hv')
  · rintro e w' ⟨u, β', A', rfl, hs, _, hu⟩
    have := hu.of_d
    cases this
    exact ⟨rfl, hs.os, hs.tape, hs.output, hs.size, fun k hk => hs.same k hk (by intro i o hi; cases hi)⟩

theorem laidOut : laidOutB Tryz.prog = true := by kernel_rfl

theorem contractX (H : Type) (enc : TypeId × Value → H) (W : World) (base : Nat) (args : Array Value) (ds gs : List (DataW H)) (before : List MemPlace)
    (hval : ∀ (j : Nat) t v, Tryz.f3.params[j]? = some t → args[j]? = some v → Value.okWide Tryz.prog W .any base t v)
    (hW : DataW.Whole enc Tryz.prog Tryz.f3.params.toList Rows.compileLimitSpec.vars false W args.toList ds gs before) :
    Calls Tryz.prog 3 args W fun e W' => ∃ v, e = .returned v ∧ Rows.compileLimitSpec.post enc Tryz.prog Tryz.f3 false true false false W args v W' := by
  have hW' := hW
  obtain ⟨p, q, hA0, hV, rfl, hfz, hnd⟩ := hW
  have hA : DataW.TrodAll enc Tryz.prog W 0 (fun _ => true) true Tryz.f3.params.toList args.toList ds p := hA0
  rw [Tryz.params3] at hA hval
  obtain ⟨v0, vs0, d0, ds0, p0, q0, hargs, rfl, rfl, h0, r0⟩ := trodAll_cons hA
  obtain ⟨rfl, rfl, rfl⟩ := trodAll_nil r0
  obtain rfl : args = #[v0] := by cases args; simp_all
  obtain ⟨rfl, rfl⟩ := trodVars_none hV
  obtain ⟨n, rfl, rfl, rfl, hn⟩ := open_int Tryz.underlying5 (hval 0 5 v0 rfl rfl) h0
  have hn' := hn
  simp only [Lit.wf, Bool.and_eq_true, decide_eq_true_eq] at hn'
  have e1 : IntKind.u8.min = 0 := by decide
  have e2 : IntKind.u8.max = 255 := by decide
  rw [e1, e2] at hn'
  refine (calls_of_pcon (walk3 n (by omega) (by omega)) (vs := #[.int .u8 n]) (fun g cs h => by cases h) rfl ?_).mono ?_
  · intro i d v hd hv
    match i, hd, hv with
    | 0, hd, hv => cases hd; cases hv; exact .int _ _ (by rw [e1, e2]; omega)
  · rintro e W' ⟨rfl, hbel⟩
    refine ⟨.bool true, rfl, [.lit (.int .u8 n)], [], _, [], [], [], hW', ?_, ?_, ?_, hbel.frame _, fun h => by cases h⟩
    · exact trodAll_mk1 (shut_bool (by kernel_rfl) _)
    · show DataW.TrodAll enc Tryz.prog W' 0 _ true Tryz.f3.params.toList [.int .u8 n] [.lit (.int .u8 n)] _
      rw [Tryz.params3]
      exact trodAll_cons_mk (shut_int Tryz.underlying5 hn) trodAll_mk0
    · rfl
end Go.Proofs.YtokdogomolegnaaGreatDoor
