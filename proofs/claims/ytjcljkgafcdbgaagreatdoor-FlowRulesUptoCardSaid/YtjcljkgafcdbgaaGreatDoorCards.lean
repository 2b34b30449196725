/-
  DERIVED. GIVEN WITH THE SEED: THE CARDS: each row of YtjcljkgafcdbgaaGreatDoorRows.lean that lists a variable, with what it lists TIED to the program's text (the seventh form; the later family's looks); each row that meets fmt, with fmt's text TOLD by the authors' own Lean function (tested against real Go, not proved from fmt's source: count such statements apart). THE CARD IS WHAT COUNTS. Prove the row's statement (the work); the ties are given (YtjcljkgafcdbgaaGreatDoorTie.lean); close each card by the builder's one call (the guide's Derived/Test/ToyasCard.lean, 'card_holds'). Laid BY PROGRAM, IN A SANDBOX (cutbox-door.mjs). By AI agents, Wed Nov 11 2026. No macro, syntax, notation, axiom, sorry.
-/
import Derived.Test.YtjcljkgafcdbgaaGreatDoorRows
import GoSem.ClaimSeven
namespace Go.Proofs.YtjcljkgafcdbgaaGreatDoor
namespace Rows

/-- THE TIED CARD OF 'manifoldlaw25.FlowRules'. -/
def flowRulesCard : Claim7 := { stood := { row := flowRulesRow, standIns := [], harness := (true, "9da64dfb3f8d821fbde81e46e16818119be5741cea6594d676b2d4fb8038a6ef"), looks := true }, kinds := [], alts := [], laidByText := true, laidKinds := [.pinned, .data, .data, .data, .data, .sentinel, .sentinel], laidTests := true, laidLooks := .later }
def FlowRulesCardSaid : Prop := Claim7.holds Tryz.pinned (.plain (OpenSpec.ofChange flowRulesSpec)) flowRulesCard

/-- THE SECOND FORM's CARD OF 'manifoldlaw25.FlowRules'. -/
def flowRulesUptoCard : Claim7 := { stood := { row := flowRulesUptoRow, standIns := [], harness := (true, "9da64dfb3f8d821fbde81e46e16818119be5741cea6594d676b2d4fb8038a6ef"), looks := true }, kinds := [], alts := [], laidByText := true, laidKinds := [.pinned, .data, .data, .data, .data, .sentinel, .sentinel], laidTests := true, laidLooks := .later }
def FlowRulesUptoCardSaid : Prop := Claim7.holds Tryz.pinned (.plain (OpenSpec.upto flowRulesSpec)) flowRulesUptoCard
end Rows
end Go.Proofs.YtjcljkgafcdbgaaGreatDoor
