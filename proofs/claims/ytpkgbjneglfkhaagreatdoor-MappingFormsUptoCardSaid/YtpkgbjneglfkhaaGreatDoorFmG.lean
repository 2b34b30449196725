/- What the listed package-level variables hold, for the framework. -/
import Derived.Test.YtpkgbjneglfkhaaGreatDoorForms
import Derived.Test.YtpkgbjneglfkhaaGreatDoorReadA
import Derived.Test.YtpkgbjneglfkhaaGreatDoorCards
import Derived.Test.YtpkgbjneglfkhaaGreatDoorTie
import Derived.Test.YtpkgbjneglfkhaaGreatDoorAvD
import Derived.ProofKit
import Derived.Stop.LaidErr
import Derived.Lib.LaidTab
import Derived.Lib.ItoaNum
import Derived.LaidLaws
set_option linter.unusedVariables false
set_option linter.unusedSimpArgs false
set_option linter.unusedSectionVars false
set_option linter.unusedSimpArgs false
set_option linter.unusedVariables false
set_option maxRecDepth 100000
namespace Go.Proofs.YtpkgbjneglfkhaaGreatDoor
open Go Go.Proofs Av

theorem g3n : Tryz.prog.globalNamed "internal/strconv.uint64pow10" = some 3 := by kernel_rfl
theorem g3t : (Tryz.prog.globals[3]?).map (·.type) = some 379 := by kernel_rfl
theorem g4n : Tryz.prog.globalNamed "strconv.ErrSyntax" = some 4 := by kernel_rfl
theorem g4t : (Tryz.prog.globals[4]?).map (·.type) = some 270 := by kernel_rfl
theorem g5n : Tryz.prog.globalNamed "strconv.ErrRange" = some 5 := by kernel_rfl
theorem g5t : (Tryz.prog.globals[5]?).map (·.type) = some 270 := by kernel_rfl
theorem c299 : Tryz.prog.cellsOf 299 = 1 := by kernel_rfl
theorem c379 : Tryz.prog.cellsOf 379 = 20 := by kernel_rfl
theorem c417 : Tryz.prog.cellsOf 417 = 1 := by kernel_rfl
theorem c9' : Tryz.prog.cellsOf 9 = 1 := by kernel_rfl
theorem row415 (u : TypeId) (h : Tryz.prog.typeName? 3 u = some "*errors.errorString") : u = 415 :=
  typeName_ptr_named (nm := "errors.errorString") (by kernel_rfl) (by kernel_rfl) (by decide) u h

theorem grep_of_var {w : World} {n : String} {g : Nat} {vs : List Value} {cs : List Dat} (hn : Tryz.prog.globalNamed n = some g) (h : w.var? Tryz.prog n = some vs.toArray) (hl : cs.length = vs.length)
    (h1 : ∀ v ∈ vs, v.oneCell' = true) (hv : ∀ (j : Nat) c v, cs[j]? = some c → vs[j]? = some v → Rep (Av.old w) w c v) : GRep (Av.old w) w g cs := by
  unfold World.var? at h
  rw [hn] at h
  simp only [Option.bind_some] at h
  split at h
  · rename_i C T fr e
    cases h
    refine ⟨(Array.getElem?_eq_some_iff.1 e).1, _, T, fr, e, by simpa using hl, by simpa using h1, fun j c v hc hv' => hv j c v hc (by simpa using hv')⟩
  · cases h

theorem globs {w : World} (hL : laidMet Tryz.prog Rows.mappingFormsUptoRow.laid w) : ∀ g cs, globOf g = some cs → GRep (Av.old w) w g cs := by
  intro g cs h
  have hp : Lib.TabIs Tryz.prog w "internal/strconv.uint64pow10" .u64 Lib.pow10Tab := Lib.tabIs_of_head g3n g3t Tryz.underlying379 Tryz.underlying299 c299 c379 hL.tail.tail
  obtain ⟨a5, s5, v5, _⟩ := laid_sentinel hL.tail.tail.tail.tail g5n g5t Tryz.underlying270 row415 Tryz.underlying415 Tryz.underlying417 rfl rfl Tryz.underlying9 c417 c9'
  obtain ⟨a4, s4, v4, _⟩ := laid_sentinel hL.tail.tail.tail.tail.tail g4n g4t Tryz.underlying270 row415 Tryz.underlying415 Tryz.underlying417 rfl rfl Tryz.underlying9 c417 c9'
  have hg : (g = 3 ∧ cs = tab3) ∨ (g = 4 ∧ cs = [.iface 415 .opq]) ∨ (g = 5 ∧ cs = [.iface 415 .opq]) := by
    simp only [globOf, Glb.l, Av.get] at h
    split at h
    · rename_i e; cases h; exact .inl ⟨e.symm, rfl⟩
    · split at h
      · rename_i e; cases h; exact .inr (.inl ⟨e.symm, rfl⟩)
      · split at h
        · rename_i e; cases h; exact .inr (.inr ⟨e.symm, rfl⟩)
        · cases h
  rcases hg with ⟨rfl, rfl⟩ | ⟨rfl, rfl⟩ | ⟨rfl, rfl⟩
  · refine grep_of_var (vs := Lib.pow10Tab.map fun z => Value.int .u64 z) g3n hp (by simp [tab3, Lib.pow10Tab]) ?_ ?_
    · intro v hv
      obtain ⟨z, _, rfl⟩ := List.mem_map.1 hv
      rfl
    · intro j c v hc hv
      simp only [tab3, Lib.pow10Tab, List.map_map, List.getElem?_map] at hc hv
      cases e : (List.range 20)[j]? with
      | none => rw [e] at hc; cases hc
      | some k =>
        rw [e] at hc hv
        cases hc
        cases hv
        refine .int _ _ ?_
        obtain ⟨hj, rfl⟩ := List.getElem?_eq_some_iff.1 e
        simp only [List.length_range] at hj
        simp only [List.getElem_range]
        have e1 : IntKind.u64.min = 0 := by decide
        have e2 : IntKind.u64.max = 18446744073709551615 := by decide
        rw [e1, e2]
        have : (10 ^ j : Nat) ≤ 10 ^ 19 := Nat.pow_le_pow_right (by decide) (by omega)
        have h10 : (10 ^ 19 : Nat) = 10000000000000000000 := by decide
        rw [h10] at this
        show (0 : Int) ≤ ((10 ^ j : Nat) : Int) ∧ ((10 ^ j : Nat) : Int) ≤ 18446744073709551615
        generalize (10 ^ j : Nat) = x at this ⊢
        omega
  · refine grep_of_var (vs := [_]) g4n v4 rfl (by simp; rfl) ?_
    intro j c v hc hv
    match j, hc, hv with
    | 0, hc, hv => cases hc; cases hv; exact .iface _ _ _ (.opq _ rfl)
  · refine grep_of_var (vs := [_]) g5n v5 rfl (by simp; rfl) ?_
    intro j c v hc hv
    match j, hc, hv with
    | 0, hc, hv => cases hc; cases hv; exact .iface _ _ _ (.opq _ rfl)
end Go.Proofs.YtpkgbjneglfkhaaGreatDoor
