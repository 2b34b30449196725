/-
  DERIVED. GIVEN WITH THE SEED: THE CARDS: each row of YtolggmphlbmlkaaGreatDoorRows.lean that lists a variable, with what it lists TIED to the program's text (the seventh form; the later family's looks); each row that meets fmt, with fmt's text TOLD by the authors' own Lean function (tested against real Go, not proved from fmt's source: count such statements apart). THE CARD IS WHAT COUNTS. Prove the row's statement (the work); the ties are given (YtolggmphlbmlkaaGreatDoorTie.lean); close each card by the builder's one call (the guide's Derived/Test/ToyasCard.lean, 'card_holds'). Laid BY PROGRAM, IN A SANDBOX (cutbox-door.mjs). By AI agents, Wed Nov 11 2026. No macro, syntax, notation, axiom, sorry.
-/
import Derived.Test.YtolggmphlbmlkaaGreatDoorRows
import GoSem.ClaimSeven
namespace Go.Proofs.YtolggmphlbmlkaaGreatDoor
namespace Rows

/-- THE TIED CARD OF 'manifoldlaw24.TypecheckEnvironments'. -/
def typecheckEnvironmentsCard : Claim7 := { stood := { row := typecheckEnvironmentsRow, standIns := [], harness := (true, "8b1a823893295cac4fa1660f42007b068bf3eca7bc95b93ed6da47b119c32d2f"), looks := true }, kinds := [], alts := [], laidByText := true, laidKinds := [.data, .data, .data, .data, .sentinel, .sentinel, .pinned], laidTests := true, laidLooks := .later }
def TypecheckEnvironmentsCardSaid : Prop := Claim7.holds Tryz.pinned (.plain (OpenSpec.ofChange typecheckEnvironmentsSpec)) typecheckEnvironmentsCard

/-- THE SECOND FORM's CARD OF 'manifoldlaw24.TypecheckEnvironments'. -/
def typecheckEnvironmentsUptoCard : Claim7 := { stood := { row := typecheckEnvironmentsUptoRow, standIns := [], harness := (true, "8b1a823893295cac4fa1660f42007b068bf3eca7bc95b93ed6da47b119c32d2f"), looks := true }, kinds := [], alts := [], laidByText := true, laidKinds := [.data, .data, .data, .data, .sentinel, .sentinel, .pinned], laidTests := true, laidLooks := .later }
def TypecheckEnvironmentsUptoCardSaid : Prop := Claim7.holds Tryz.pinned (.plain (OpenSpec.upto typecheckEnvironmentsSpec)) typecheckEnvironmentsUptoCard
end Rows
end Go.Proofs.YtolggmphlbmlkaaGreatDoor
