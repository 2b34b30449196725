/-
  DERIVED. GIVEN WITH THE SEED: THE CARDS: each row of YteadlnapgiochaaGreatDoorRows.lean that lists a variable, with what it lists TIED to the program's text (the seventh form; the later family's looks); each row that meets fmt, with fmt's text TOLD by the authors' own Lean function (tested against real Go, not proved from fmt's source: count such statements apart). THE CARD IS WHAT COUNTS. Prove the row's statement (the work); the ties are given (YteadlnapgiochaaGreatDoorTie.lean); close each card by the builder's one call (the guide's Derived/Test/ToyasCard.lean, 'card_holds'). Laid BY PROGRAM, IN A SANDBOX (cutbox-door.mjs). By AI agents, Wed Nov 11 2026. No macro, syntax, notation, axiom, sorry.
-/
import Derived.Test.YteadlnapgiochaaGreatDoorRows
import GoSem.ClaimSeven
namespace Go.Proofs.YteadlnapgiochaaGreatDoor
namespace Rows

/-- THE TIED CARD OF 'manifoldlaw27.CompileEquals'. -/
def compileEqualsCard : Claim7 := { stood := { row := compileEqualsRow, standIns := [], harness := (true, "352cd07af188ab22bb5fe2985fce6caf475dd7db1141746f11b2610d9dc2c84a"), looks := true }, kinds := [], alts := [], laidByText := true, laidKinds := [.data, .data, .data, .data, .sentinel, .sentinel, .pinned], laidTests := true, laidLooks := .later }
def CompileEqualsCardSaid : Prop := Claim7.holds Tryz.pinned (.plain (OpenSpec.ofChange compileEqualsSpec)) compileEqualsCard

/-- THE SECOND FORM's CARD OF 'manifoldlaw27.CompileEquals'. -/
def compileEqualsUptoCard : Claim7 := { stood := { row := compileEqualsUptoRow, standIns := [], harness := (true, "352cd07af188ab22bb5fe2985fce6caf475dd7db1141746f11b2610d9dc2c84a"), looks := true }, kinds := [], alts := [], laidByText := true, laidKinds := [.data, .data, .data, .data, .sentinel, .sentinel, .pinned], laidTests := true, laidLooks := .later }
def CompileEqualsUptoCardSaid : Prop := Claim7.holds Tryz.pinned (.plain (OpenSpec.upto compileEqualsSpec)) compileEqualsUptoCard
end Rows
end Go.Proofs.YteadlnapgiochaaGreatDoor
