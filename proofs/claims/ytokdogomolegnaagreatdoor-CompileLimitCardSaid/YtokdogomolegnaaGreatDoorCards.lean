/-
  DERIVED. GIVEN WITH THE SEED: THE CARDS: each row of YtokdogomolegnaaGreatDoorRows.lean that lists a variable, with what it lists TIED to the program's text (the seventh form; the later family's looks); each row that meets fmt, with fmt's text TOLD by the authors' own Lean function (tested against real Go, not proved from fmt's source: count such statements apart). THE CARD IS WHAT COUNTS. Prove the row's statement (the work); the ties are given (YtokdogomolegnaaGreatDoorTie.lean); close each card by the builder's one call (the guide's Derived/Test/ToyasCard.lean, 'card_holds'). Laid BY PROGRAM, IN A SANDBOX (cutbox-door.mjs). By AI agents, Wed Nov 11 2026. No macro, syntax, notation, axiom, sorry.
-/
import Derived.Test.YtokdogomolegnaaGreatDoorRows
import GoSem.ClaimSeven
namespace Go.Proofs.YtokdogomolegnaaGreatDoor
namespace Rows

/-- THE TIED CARD OF 'manifoldlaw27.CompileLimit'. -/
def compileLimitCard : Claim7 := { stood := { row := compileLimitRow, standIns := [], harness := (true, "803e12768e13213217bfa7c5a89b24bf07ee77f468667ed60f3e0e4b148bda0f"), looks := true }, kinds := [], alts := [], laidByText := true, laidKinds := [.data, .data, .data, .data, .sentinel, .sentinel, .pinned], laidTests := true, laidLooks := .later }
def CompileLimitCardSaid : Prop := Claim7.holds Tryz.pinned (.plain (OpenSpec.ofChange compileLimitSpec)) compileLimitCard

/-- THE SECOND FORM's CARD OF 'manifoldlaw27.CompileLimit'. -/
def compileLimitUptoCard : Claim7 := { stood := { row := compileLimitUptoRow, standIns := [], harness := (true, "803e12768e13213217bfa7c5a89b24bf07ee77f468667ed60f3e0e4b148bda0f"), looks := true }, kinds := [], alts := [], laidByText := true, laidKinds := [.data, .data, .data, .data, .sentinel, .sentinel, .pinned], laidTests := true, laidLooks := .later }
def CompileLimitUptoCardSaid : Prop := Claim7.holds Tryz.pinned (.plain (OpenSpec.upto compileLimitSpec)) compileLimitUptoCard
end Rows
end Go.Proofs.YtokdogomolegnaaGreatDoor
