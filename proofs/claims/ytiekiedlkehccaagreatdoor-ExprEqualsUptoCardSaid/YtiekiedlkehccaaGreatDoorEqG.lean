/- Part G of a proof. -/
import Derived.Test.YtiekiedlkehccaaGreatDoorEqE
import Derived.Test.YtiekiedlkehccaaGreatDoorEqF
import Derived.OpenShut
import Derived.Carry
import Derived.LaidMore
import Derived.Deep.DeepWitnessRowRef
set_option linter.unusedVariables false
set_option linter.unusedSimpArgs false
set_option linter.unusedSectionVars false
set_option maxRecDepth 10000
namespace Go.Proofs.YtiekiedlkehccaaGreatDoor
open Go Go.Proofs Av Go.ChangeShapes Go.WideShapes Go.ChangeAt Go.RowKit

theorem core_old (w : World) (hg : ∀ g cs, globOf g = some cs → GRep (Av.old w) w g cs) : Core (fun _ => (⟨none, []⟩ : BK)) (Av.old w) w (get []) :=
  ⟨(by intro i o hi; cases hi), (by intro i j o o' b hi; cases hi), (by intro i o b hi; cases hi), fun _ h => h, hg⟩

/-- a call with data, from the outside -/
theorem calls_of_pcon {P : Program} {f : Nat} {ds : List Dat} {b : Bool} (h : PCon P f ds (.d (.bool b))) {w : World} {vs : Array Value} (hg : ∀ g cs, globOf g = some cs → GRep (Av.old w) w g cs) (hl : ds.length = vs.size)
    (hv : ∀ (i : Nat) d v, ds[i]? = some d → vs[i]? = some v → Rep (Av.old w) w d v) :
    Calls P f vs w fun e w' => e = .returned (.bool b) ∧ Below w.heap.size w w' := by
  refine (h.2 (fun _ => (⟨none, []⟩ : BK)) (Av.old w) w vs (core_old w hg) ⟨by simpa using hl, ?_⟩).mono ?_
  · intro i c v hc hv'
    rw [List.getElem?_map] at hc
    cases e : ds[i]? with
    | none => rw [e] at hc; cases hc
    | some d =>
      rw [e] at hc
      cases hc
      exact .d _ _ (hv i d v e hv')
  · rintro e w' ⟨u, β', A', rfl, hs, _, hu⟩
    have := hu.of_d
    cases this
    exact ⟨rfl, hs.os, hs.tape, hs.output, hs.size, fun k hk => hs.same k hk (by intro i o hi; cases hi)⟩

theorem laidOut : laidOutB Tryz.prog = true := by kernel_rfl
theorem bulk_append {H : Type} (l r : List (DataW H)) : Rows.uptoBulkAll (l ++ r) = Rows.uptoBulkAll l + Rows.uptoBulkAll r := by
  induction l with
  | nil => simp [Rows.uptoBulkAll]
  | cons x l ih => simp only [List.cons_append, Rows.uptoBulkAll, ih]; omega

/-- an expression as an argument -/
theorem open_exp46 {H : Type} {enc : TypeId × Value → H} {w : World} {r : Reach} {base b0 : Nat} {spare : Nat → Bool} {held : Bool} {v : Value} {d : DataW H} {ps : List MemPlace}
    (hval : Value.okWide Tryz.prog w r b0 73 v) (hd : DataW.Trod enc Tryz.prog w base spare held 73 v d ps) (hb : Rows.uptoBulk d ≤ 1048576) : ∃ e : Exp, (okE e ∧ okN e) ∧ Rep (Av.old w) w (encE e) v := by
  obtain ⟨fuel, hf⟩ := hd
  obtain ⟨m, hm, hc⟩ := read_exp fuel _ (d, ps) hf hb
  refine ⟨m, hm, ?_⟩
  unfold Value.okWide at hval
  rw [Tryz.underlying73] at hval
  obtain ⟨cs, rfl, _, _⟩ := hval
  obtain ⟨h1, h2, h3⟩ := hc
  have e : (Value.agg cs).cells = cs := rfl
  rw [e] at h1 h2 h3
  have h1' : (encE m).cells.length = cs.size := by simpa using h1
  rw [encE_eq] at h1' h3 ⊢
  exact .agg _ _ h1' h2 (fun i c v hc hv => h3 i c v hc (by simpa using hv))


/-- a value as an argument -/
theorem open_val30 {H : Type} {enc : TypeId × Value → H} {w : World} {r : Reach} {base b0 : Nat} {spare : Nat → Bool} {held : Bool} {v : Value} {d : DataW H} {ps : List MemPlace}
    (hval : Value.okWide Tryz.prog w r b0 30 v) (hd : DataW.Trod enc Tryz.prog w base spare held 30 v d ps) (hb : Rows.uptoBulk d ≤ 1048576) : ∃ a : Val, (okV a ∧ szV a ≤ Rows.uptoBulk d) ∧ Rep (Av.old w) w (encV a) v := by
  obtain ⟨fuel, hf⟩ := hd
  obtain ⟨m, hm, hc⟩ := read_val fuel _ (d, ps) hf hb
  refine ⟨m, hm, ?_⟩
  unfold Value.okWide at hval
  rw [Tryz.underlying30] at hval
  obtain ⟨cs, rfl, _, _⟩ := hval
  obtain ⟨h1, h2, h3⟩ := hc
  have e : (Value.agg cs).cells = cs := rfl
  rw [e] at h1 h2 h3
  have h1' : (encV m).cells.length = cs.size := by simpa using h1
  rw [encV_eq] at h1' h3 ⊢
  exact .agg _ _ h1' h2 (fun i c v hc hv => h3 i c v hc (by simpa using hv))

theorem c79 : Tryz.prog.cellsOf 79 = 7 := by kernel_rfl
/-- a change (a path and a value) as an argument -/
theorem open_change79 {H : Type} {enc : TypeId × Value → H} {w : World} {r : Reach} {base b0 : Nat} {spare : Nat → Bool} {held : Bool} {v : Value} {d : DataW H} {ps : List MemPlace}
    (hval : Value.okWide Tryz.prog w r b0 79 v) (hd : DataW.Trod enc Tryz.prog w base spare held 79 v d ps) (hb : Rows.uptoBulk d ≤ 1048576) : ∃ a : Fld, Rep (Av.old w) w (encF a) v := by
  obtain ⟨fuel, hq⟩ := hd
  obtain ⟨xs, n, rfl, hx, hl, hlen, hf⟩ := DataW.trod_struct Tryz.underlying79 hq
  rw [c79] at hl
  obtain rfl : d = .agg (xs.map (·.1)) := congrArg Prod.fst hx
  unfold Value.okWide at hval
  rw [Tryz.underlying79] at hval
  obtain ⟨cs, rfl, _, _⟩ := hval
  have e : (Value.agg cs).cells = cs := rfl
  clear hq
  rw [e] at hl hf
  obtain ⟨cs⟩ := cs
  have h0 := fld hf 0 9 0 rfl c9
  have h1 := fld hf 1 30 1 rfl c19
  match xs, hlen, cs, hl with
  | [y0, y1], _, [a0, a1, a2, a3, a4, a5, a6], _ =>
    simp only [List.map_cons, List.map_nil, Rows.uptoBulk, Rows.uptoBulkAll] at hb
    obtain ⟨nm, _, g0⟩ := cr_str Tryz.underlying9 (show DataW.trod enc Tryz.prog w base spare held n 9 [a0] = some y0 from h0) (by omega)
    obtain ⟨v, ov, g1⟩ := read_val n [a1, a2, a3, a4, a5, a6] y1 h1 (by omega)
    refine ⟨.mk nm v, ?_⟩
    have hc := g0.append g1
    have hc' : CR (Av.old w) w (encF (.mk nm v)).cells [a0, a1, a2, a3, a4, a5, a6] := by simpa only [encF, Dat.cells, List.singleton_append] using hc
    obtain ⟨h1, h2, h3⟩ := hc'
    have h1' : (encF (.mk nm v)).cells.length = 7 := by simpa using h1
    rw [encF_eq] at h1' h3 ⊢
    exact .agg _ _ h1' h2 (fun i c v hc hv => h3 i c v hc (by simpa using hv))

end Go.Proofs.YtiekiedlkehccaaGreatDoor
