/- Calls with mappings as arguments, from the outside. -/
import Derived.Test.YtholoaojlcnacaaGreatDoorReadA
import Derived.Test.YtholoaojlcnacaaGreatDoorCaG
import Derived.OpenShut
import Derived.Carry
import Derived.LaidMore
import Derived.Deep.DeepWitnessRowRef
import Derived.Test.YtholoaojlcnacaaGreatDoorCaD
set_option linter.unusedVariables false
set_option linter.unusedSimpArgs false
set_option linter.unusedSectionVars false
set_option linter.unusedSimpArgs false
set_option linter.unusedVariables false
set_option maxRecDepth 10000
namespace Go.Proofs.YtholoaojlcnacaaGreatDoor
open Go Go.Proofs Av Go.ChangeShapes Go.WideShapes Go.ChangeAt Go.RowKit

theorem core_old (w : World) (hg : ∀ g cs, globOf g = some cs → GRep (Av.old w) w g cs) : Core (fun _ => none) (Av.old w) w (get []) :=
  ⟨(by intro i o hi; cases hi), (by intro i j o o' b hi; cases hi), (by intro i o b hi; cases hi), fun _ h => h, hg⟩

/-- a call with data, from the outside -/
theorem calls_of_pcon {P : Program} {f : Nat} {ds : List Dat} {b : Bool} (h : PCon P f ds (.d (.bool b))) {w : World} {vs : Array Value} (hg : ∀ g cs, globOf g = some cs → GRep (Av.old w) w g cs) (hl : ds.length = vs.size)
    (hv : ∀ (i : Nat) d v, ds[i]? = some d → vs[i]? = some v → Rep (Av.old w) w d v) :
    Calls P f vs w fun e w' => e = .returned (.bool b) ∧ Below w.heap.size w w' := by
  refine (h.2 (fun _ => none) (Av.old w) w vs (core_old w hg) ⟨by simpa using hl, ?_⟩).mono ?_
  · intro i c v hc hv'
    rw [List.getElem?_map] at hc
    cases e : ds[i]? with
    | none => rw [e] at hc; cases hc
    | some d =>
      rw [e] at hc
      cases hc
      exact .d _ _ (hv i d v e hv')
  · rintro e w' ⟨u, β', A', rfl, hs, _, hu⟩
    have := hu.of_d
    cases this
    exact ⟨rfl, hs.os, hs.tape, hs.output, hs.size, fun k hk => hs.same k hk (by intro i o hi; cases hi)⟩

theorem laidOut : laidOutB Tryz.prog = true := by kernel_rfl
theorem bulk_append {H : Type} (l r : List (DataW H)) : Rows.uptoBulkAll (l ++ r) = Rows.uptoBulkAll l + Rows.uptoBulkAll r := by
  induction l with
  | nil => simp [Rows.uptoBulkAll]
  | cons x l ih => simp only [List.cons_append, Rows.uptoBulkAll, ih]; omega

/-- an expression as an argument -/
theorem open_exp46 {H : Type} {enc : TypeId × Value → H} {w : World} {r : Reach} {base b0 : Nat} {spare : Nat → Bool} {held : Bool} {v : Value} {d : DataW H} {ps : List MemPlace}
    (hval : Value.okWide Tryz.prog w r b0 46 v) (hd : DataW.Trod enc Tryz.prog w base spare held 46 v d ps) (hb : Rows.uptoBulk d ≤ 1048576) : ∃ e : Exp, (okE e ∧ okN e) ∧ Rep (Av.old w) w (encE e) v := by
  obtain ⟨fuel, hf⟩ := hd
  obtain ⟨m, hm, hc⟩ := read_exp fuel _ (d, ps) hf hb
  refine ⟨m, hm, ?_⟩
  unfold Value.okWide at hval
  rw [Tryz.underlying46] at hval
  obtain ⟨cs, rfl, _, _⟩ := hval
  obtain ⟨h1, h2, h3⟩ := hc
  have e : (Value.agg cs).cells = cs := rfl
  rw [e] at h1 h2 h3
  have h1' : (encE m).cells.length = cs.size := by simpa using h1
  rw [encE_eq] at h1' h3 ⊢
  exact .agg _ _ h1' h2 (fun i c v hc hv => h3 i c v hc (by simpa using hv))

end Go.Proofs.YtholoaojlcnacaaGreatDoor
/- ExprCalculates: the contract over memory. -/
set_option linter.unusedSimpArgs false
set_option linter.unusedVariables false
set_option maxRecDepth 10000
namespace Go.Proofs.YtholoaojlcnacaaGreatDoor
open Go Go.Proofs Av Go.ChangeShapes Go.WideShapes Go.ChangeAt Go.RowKit

theorem c51 : Tryz.prog.cellsOf 51 = 2 := by kernel_rfl
theorem read_num {H : Type} {enc : TypeId × Value → H} {w : World} {base : Nat} {spare : Nat → Bool} {held : Bool} (fuel : Nat) (cs : List Value) (x : DataW H × List MemPlace)
    (h : DataW.trod enc Tryz.prog w base spare held fuel 51 cs = some x) : ∃ a : Int × Int, CR (old w) w (encN a).cells cs := by
  obtain ⟨xs, n, rfl, rfl, hl, hlen, hf⟩ := DataW.trod_struct Tryz.underlying51 h
  rw [c51] at hl
  have h0 := fld hf 0 3 0 rfl c3
  have h1 := fld hf 1 3 1 rfl c3
  match xs, hlen, cs, hl with
  | [y0, y1], _, [a0, a1], _ =>
    obtain ⟨o, g0⟩ := cr_int Tryz.underlying3 (show DataW.trod enc Tryz.prog w base spare held n 3 [a0] = some y0 from h0)
    obtain ⟨i, g1⟩ := cr_int Tryz.underlying3 (show DataW.trod enc Tryz.prog w base spare held n 3 [a1] = some y1 from h1)
    refine ⟨(o, i), ?_⟩
    have := g0.append g1
    simpa only [encN, Dat.cells, List.singleton_append, List.cons_append, List.nil_append] using this
theorem open_num {H : Type} {enc : TypeId × Value → H} {w : World} {r : Reach} {base b0 : Nat} {spare : Nat → Bool} {held : Bool} {v : Value} {d : DataW H} {ps : List MemPlace}
    (hval : Value.okWide Tryz.prog w r b0 51 v) (hd : DataW.Trod enc Tryz.prog w base spare held 51 v d ps) : ∃ a : Int × Int, Rep (Av.old w) w (encN a) v := by
  obtain ⟨fuel, hf⟩ := hd
  obtain ⟨m, hc⟩ := read_num fuel _ (d, ps) hf
  refine ⟨m, ?_⟩
  unfold Value.okWide at hval
  rw [Tryz.underlying51] at hval
  obtain ⟨cs, rfl, _, _⟩ := hval
  obtain ⟨h1, h2, h3⟩ := hc
  have e : (Value.agg cs).cells = cs := rfl
  rw [e] at h1 h2 h3
  have h1' : (encN m).cells.length = cs.size := by simpa using h1
  rw [encN] at h1' h3 ⊢
  exact .agg _ _ h1' h2 (fun i c v hc hv => h3 i c v hc (by simpa using hv))
theorem open_int {H : Type} {enc : TypeId × Value → H} {w : World} {r : Reach} {base b0 : Nat} {spare : Nat → Bool} {held : Bool} {v : Value} {d : DataW H} {ps : List MemPlace}
    (hval : Value.okWide Tryz.prog w r b0 3 v) (hd : DataW.Trod enc Tryz.prog w base spare held 3 v d ps) : ∃ n : Int, Rep (Av.old w) w (.int .i64 n) v := by
  obtain ⟨fuel, hf⟩ := hd
  obtain ⟨n, hc⟩ := cr_int Tryz.underlying3 hf
  refine ⟨n, ?_⟩
  obtain ⟨h1, h2, h3⟩ := hc
  cases v with
  | int k' m => exact h3 0 _ _ rfl rfl
  | _ => first | exact h3 0 _ _ rfl rfl | (unfold Value.okWide at hval; rw [Tryz.underlying3] at hval; first | exact hval.elim | (rw [Tryz.underlying3] at hval; exact hval.elim) | (simp [Tryz.underlying3] at hval))

theorem contractY (H : Type) (enc : TypeId × Value → H) (W : World) (base : Nat) (args : Array Value) (ds gs : List (DataW H)) (before : List MemPlace)
    (hval : ∀ (j : Nat) t v, Tryz.f5.params[j]? = some t → args[j]? = some v → Value.okWide Tryz.prog W .any base t v)
    (hW : DataW.Whole enc Tryz.prog Tryz.f5.params.toList Rows.exprCalculatesSpec.vars false W args.toList ds gs before) (hL : laidMetH Tryz.prog Rows.exprCalculatesUptoRow.laid W) :
    Calls Tryz.prog 5 args W fun e W' => ∃ v, e = .returned v ∧ Rows.exprCalculatesSpec.post enc Tryz.prog Tryz.f5 false true false false W args v W' := by
  have hW' := hW
  obtain ⟨p, q, hA0, hV, rfl, hfz, hnd⟩ := hW
  have hA : DataW.TrodAll enc Tryz.prog W 0 (fun _ => true) true Tryz.f5.params.toList args.toList ds p := hA0
  rw [Tryz.params5] at hA hval
  obtain ⟨v0, vs0, d0, ds0, p0, q0, hargs, rfl, rfl, h0, r0⟩ := trodAll_cons hA
  obtain ⟨v1, vs1, d1, ds1, p1, q1, hargs1, rfl, rfl, h1, r1⟩ := trodAll_cons r0
  obtain ⟨v2, vs2, d2, ds2, p2, q2, hargs2, rfl, rfl, h2, r2⟩ := trodAll_cons r1
  obtain ⟨rfl, rfl, rfl⟩ := trodAll_nil r2
  subst hargs1 hargs2
  obtain rfl : args = #[v0, v1, v2] := by cases args; simp_all
  obtain ⟨rfl, rfl⟩ := trodVars_none hV
  obtain ⟨a, ra⟩ := open_num (hval 0 51 v0 rfl rfl) h0
  obtain ⟨b, rb⟩ := open_num (hval 1 51 v1 rfl rfl) h1
  obtain ⟨s, rs⟩ := open_int (hval 2 3 v2 rfl rfl) h2
  refine (calls_of_pcon (walk5 a b s) (vs := #[v0, v1, v2]) (globs hL) rfl ?_).mono ?_
  · intro i d v hd hv
    match i, hd, hv with
    | 0, hd, hv => cases hd; cases hv; exact ra
    | 1, hd, hv => cases hd; cases hv; exact rb
    | 2, hd, hv => cases hd; cases hv; exact rs
  · rintro e W' ⟨rfl, hbel⟩
    have hlt : ∀ x ∈ p0 ++ (p1 ++ (p2 ++ [])), x.block < W.heap.size := fun x hx => by simpa using hW'.lt x (by simpa using hx)
    refine ⟨.bool true, rfl, [d0, d1, d2], [], _, [], p0 ++ (p1 ++ (p2 ++ [])), [], hW', ?_, ?_, ?_, hbel.frame _, fun h => by cases h⟩
    · exact trodAll_mk1 (shut_bool (by kernel_rfl) _)
    · have a0 := Below.trod laidOut (by kernel_rfl) (of_decide_eq_true (by kernel_rfl)) h0 hbel (fun x hx => hlt x (by simp [hx]))
      have a1 := Below.trod laidOut (by kernel_rfl) (of_decide_eq_true (by kernel_rfl)) h1 hbel (fun x hx => hlt x (by simp [hx]))
      have a2 := Below.trod laidOut (by kernel_rfl) (of_decide_eq_true (by kernel_rfl)) h2 hbel (fun x hx => hlt x (by simp [hx]))
      show DataW.TrodAll enc Tryz.prog W' 0 _ true Tryz.f5.params.toList [v0, v1, v2] [d0, d1, d2] _
      rw [Tryz.params5]
      exact trodAll_cons_mk a0 (trodAll_cons_mk a1 (trodAll_cons_mk a2 trodAll_mk0))
    · rfl
end Go.Proofs.YtholoaojlcnacaaGreatDoor
