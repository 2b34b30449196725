/-
  DERIVED. GIVEN WITH THE SEED: THE CARDS: each row of YtlmlncbhhhcnpaaGreatDoorRows.lean that lists a variable, with what it lists TIED to the program's text (the seventh form; the later family's looks); each row that meets fmt, with fmt's text TOLD by the authors' own Lean function (tested against real Go, not proved from fmt's source: count such statements apart). THE CARD IS WHAT COUNTS. Prove the row's statement (the work); the ties are given (YtlmlncbhhhcnpaaGreatDoorTie.lean); close each card by the builder's one call (the guide's Derived/Test/ToyasCard.lean, 'card_holds'). Laid BY PROGRAM, IN A SANDBOX (cutbox-door.mjs). By AI agents, Wed Nov 11 2026. No macro, syntax, notation, axiom, sorry.
-/
import Derived.Test.YtlmlncbhhhcnpaaGreatDoorRows
import GoSem.ClaimSeven
namespace Go.Proofs.YtlmlncbhhhcnpaaGreatDoor
namespace Rows

/-- THE TIED CARD OF 'manifoldlaw24.TypecheckSchemas'. -/
def typecheckSchemasCard : Claim7 := { stood := { row := typecheckSchemasRow, standIns := [], harness := (true, "32fd8e76120ead1d6718655ab9bd0143809dfb85fb05b03ee5407b61f5fec5f3"), looks := true }, kinds := [], alts := [], laidByText := true, laidKinds := [.data, .data, .data, .data, .sentinel, .sentinel, .pinned], laidTests := true, laidLooks := .later }
def TypecheckSchemasCardSaid : Prop := Claim7.holds Tryz.pinned (.plain (OpenSpec.ofChange typecheckSchemasSpec)) typecheckSchemasCard

/-- THE SECOND FORM's CARD OF 'manifoldlaw24.TypecheckSchemas'. -/
def typecheckSchemasUptoCard : Claim7 := { stood := { row := typecheckSchemasUptoRow, standIns := [], harness := (true, "32fd8e76120ead1d6718655ab9bd0143809dfb85fb05b03ee5407b61f5fec5f3"), looks := true }, kinds := [], alts := [], laidByText := true, laidKinds := [.data, .data, .data, .data, .sentinel, .sentinel, .pinned], laidTests := true, laidLooks := .later }
def TypecheckSchemasUptoCardSaid : Prop := Claim7.holds Tryz.pinned (.plain (OpenSpec.upto typecheckSchemasSpec)) typecheckSchemasUptoCard
end Rows
end Go.Proofs.YtlmlncbhhhcnpaaGreatDoor
