/- Calls with mappings as arguments, from the outside. -/
import Derived.Test.YtholoaojlcnacaaGreatDoorReadA
import Derived.Test.YtholoaojlcnacaaGreatDoorExG
import Derived.OpenShut
import Derived.Carry
import Derived.LaidMore
import Derived.Deep.DeepWitnessRowRef
import Derived.Test.YtholoaojlcnacaaGreatDoorExB
set_option linter.unusedVariables false
set_option linter.unusedSimpArgs false
set_option linter.unusedSectionVars false
set_option linter.unusedSimpArgs false
set_option linter.unusedVariables false
set_option maxRecDepth 10000
namespace Go.Proofs.YtholoaojlcnacaaGreatDoor
open Go Go.Proofs Av Go.ChangeShapes Go.WideShapes Go.ChangeAt Go.RowKit

theorem core_old (w : World) (hg : ∀ g cs, globOf g = some cs → GRep (Av.old w) w g cs) : Core (fun _ => none) (Av.old w) w (get []) :=
  ⟨(by intro i o hi; cases hi), (by intro i j o o' b hi; cases hi), (by intro i o b hi; cases hi), fun _ h => h, hg⟩

/-- a call with data, from the outside -/
theorem calls_of_pcon {P : Program} {f : Nat} {ds : List Dat} {b : Bool} (h : PCon P f ds (.d (.bool b))) {w : World} {vs : Array Value} (hg : ∀ g cs, globOf g = some cs → GRep (Av.old w) w g cs) (hl : ds.length = vs.size)
    (hv : ∀ (i : Nat) d v, ds[i]? = some d → vs[i]? = some v → Rep (Av.old w) w d v) :
    Calls P f vs w fun e w' => e = .returned (.bool b) ∧ Below w.heap.size w w' := by
  refine (h.2 (fun _ => none) (Av.old w) w vs (core_old w hg) ⟨by simpa using hl, ?_⟩).mono ?_
  · intro i c v hc hv'
    rw [List.getElem?_map] at hc
    cases e : ds[i]? with
    | none => rw [e] at hc; cases hc
    | some d =>
      rw [e] at hc
      cases hc
      exact .d _ _ (hv i d v e hv')
  · rintro e w' ⟨u, β', A', rfl, hs, _, hu⟩
    have := hu.of_d
    cases this
    exact ⟨rfl, hs.os, hs.tape, hs.output, hs.size, fun k hk => hs.same k hk (by intro i o hi; cases hi)⟩

theorem laidOut : laidOutB Tryz.prog = true := by kernel_rfl
theorem bulk_append {H : Type} (l r : List (DataW H)) : Rows.uptoBulkAll (l ++ r) = Rows.uptoBulkAll l + Rows.uptoBulkAll r := by
  induction l with
  | nil => simp [Rows.uptoBulkAll]
  | cons x l ih => simp only [List.cons_append, Rows.uptoBulkAll, ih]; omega

/-- an expression as an argument -/
theorem open_exp46 {H : Type} {enc : TypeId × Value → H} {w : World} {r : Reach} {base b0 : Nat} {spare : Nat → Bool} {held : Bool} {v : Value} {d : DataW H} {ps : List MemPlace}
    (hval : Value.okWide Tryz.prog w r b0 46 v) (hd : DataW.Trod enc Tryz.prog w base spare held 46 v d ps) (hb : Rows.uptoBulk d ≤ 1048576) : ∃ e : Exp, (okE e ∧ okN e) ∧ Rep (Av.old w) w (encE e) v := by
  obtain ⟨fuel, hf⟩ := hd
  obtain ⟨m, hm, hc⟩ := read_exp fuel _ (d, ps) hf hb
  refine ⟨m, hm, ?_⟩
  unfold Value.okWide at hval
  rw [Tryz.underlying46] at hval
  obtain ⟨cs, rfl, _, _⟩ := hval
  obtain ⟨h1, h2, h3⟩ := hc
  have e : (Value.agg cs).cells = cs := rfl
  rw [e] at h1 h2 h3
  have h1' : (encE m).cells.length = cs.size := by simpa using h1
  rw [encE_eq] at h1' h3 ⊢
  exact .agg _ _ h1' h2 (fun i c v hc hv => h3 i c v hc (by simpa using hv))

end Go.Proofs.YtholoaojlcnacaaGreatDoor
/- ExprPaths: the contract over memory. -/
set_option linter.unusedSimpArgs false
set_option linter.unusedVariables false
set_option maxRecDepth 10000
namespace Go.Proofs.YtholoaojlcnacaaGreatDoor
open Go Go.Proofs Av Go.ChangeShapes Go.WideShapes Go.ChangeAt Go.RowKit

theorem contractX (h20 : PCon Tryz.prog 20 [] (.d (.bool true))) (H : Type) (enc : TypeId × Value → H) (W : World) (base : Nat) (args : Array Value) (ds gs : List (DataW H)) (before : List MemPlace)
    (hval : ∀ (j : Nat) t v, Tryz.f6.params[j]? = some t → args[j]? = some v → Value.okWide Tryz.prog W .any base t v)
    (hW : DataW.Whole enc Tryz.prog Tryz.f6.params.toList Rows.exprPathsSpec.vars false W args.toList ds gs before) (hk : Rows.uptoSmall H (ds ++ gs) = true) (hL : laidMetH Tryz.prog Rows.exprPathsUptoRow.laid W) :
    Calls Tryz.prog 6 args W fun e W' => ∃ v, e = .returned v ∧ Rows.exprPathsSpec.post enc Tryz.prog Tryz.f6 false true false false W args v W' := by
  have hW' := hW
  have hk' : Rows.uptoBulkAll (ds ++ gs) ≤ 1048576 := of_decide_eq_true hk
  rw [bulk_append] at hk'
  obtain ⟨p, q, hA0, hV, rfl, hfz, hnd⟩ := hW
  have hA : DataW.TrodAll enc Tryz.prog W 0 (fun _ => true) true Tryz.f6.params.toList args.toList ds p := hA0
  rw [Tryz.params6] at hA hval
  obtain ⟨v0, vs0, d0, ds0, p0, q0, hargs, rfl, rfl, h0, r0⟩ := trodAll_cons hA
  obtain ⟨rfl, rfl, rfl⟩ := trodAll_nil r0
  obtain rfl : args = #[v0] := by cases args; simp_all
  obtain ⟨rfl, rfl⟩ := trodVars_none hV
  simp only [Rows.uptoBulkAll] at hk'
  obtain ⟨m, hm, rm⟩ := open_exp46 (hval 0 46 v0 rfl rfl) h0 (by omega)
  refine (calls_of_pcon (walk6 m hm.2 h20) (vs := #[v0]) (globs hL) rfl ?_).mono ?_
  · intro i d v hd hv
    match i, hd, hv with
    | 0, hd, hv => cases hd; cases hv; exact rm
  · rintro e W' ⟨rfl, hbel⟩
    have hlt : ∀ x ∈ p0 ++ [], x.block < W.heap.size := fun x hx => by simpa using hW'.lt x (by simpa using hx)
    refine ⟨.bool true, rfl, [d0], [], _, [], p0 ++ [], [], hW', ?_, ?_, ?_, hbel.frame _, fun h => by cases h⟩
    · exact trodAll_mk1 (shut_bool (by kernel_rfl) _)
    · have a0 := Below.trod laidOut (by kernel_rfl) (of_decide_eq_true (by kernel_rfl)) h0 hbel (fun x hx => hlt x (by simp [hx]))
      show DataW.TrodAll enc Tryz.prog W' 0 _ true Tryz.f6.params.toList [v0] [d0] _
      rw [Tryz.params6]
      exact trodAll_cons_mk a0 trodAll_mk0
    · rfl
end Go.Proofs.YtholoaojlcnacaaGreatDoor
