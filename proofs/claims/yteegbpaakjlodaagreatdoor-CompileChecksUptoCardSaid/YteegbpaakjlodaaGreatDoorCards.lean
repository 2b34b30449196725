/-
  DERIVED. GIVEN WITH THE SEED: THE CARDS: each row of YteegbpaakjlodaaGreatDoorRows.lean that lists a variable, with what it lists TIED to the program's text (the seventh form; the later family's looks); each row that meets fmt, with fmt's text TOLD by the authors' own Lean function (tested against real Go, not proved from fmt's source: count such statements apart). THE CARD IS WHAT COUNTS. Prove the row's statement (the work); the ties are given (YteegbpaakjlodaaGreatDoorTie.lean); close each card by the builder's one call (the guide's Derived/Test/ToyasCard.lean, 'card_holds'). Laid BY PROGRAM, IN A SANDBOX (cutbox-door.mjs). By AI agents, Wed Nov 11 2026. No macro, syntax, notation, axiom, sorry.
-/
import Derived.Test.YteegbpaakjlodaaGreatDoorRows
import GoSem.ClaimSeven
namespace Go.Proofs.YteegbpaakjlodaaGreatDoor
namespace Rows

/-- THE TIED CARD OF 'manifoldlaw27.CompileBefore'. -/
def compileBeforeCard : Claim7 := { stood := { row := compileBeforeRow, standIns := [], harness := (true, "6a03f898325378b482ba44731f782f951659c365787d45fbdabfedd403ba2fd1"), looks := true }, kinds := [], alts := [], laidByText := true, laidKinds := [.data, .data, .data, .data, .sentinel, .sentinel, .pinned], laidTests := true, laidLooks := .later }
def CompileBeforeCardSaid : Prop := Claim7.holds Tryz.pinned (.plain (OpenSpec.ofChange compileBeforeSpec)) compileBeforeCard

/-- THE TIED CARD OF 'manifoldlaw27.CompileChecks'. -/
def compileChecksCard : Claim7 := { stood := { row := compileChecksRow, standIns := [], harness := (true, "6a03f898325378b482ba44731f782f951659c365787d45fbdabfedd403ba2fd1"), looks := true }, kinds := [], alts := [], laidByText := true, laidKinds := [.data, .data, .data, .data, .sentinel, .sentinel, .pinned], laidTests := true, laidLooks := .later }
def CompileChecksCardSaid : Prop := Claim7.holds Tryz.pinned (.plain (OpenSpec.ofChange compileChecksSpec)) compileChecksCard

/-- THE SECOND FORM's CARD OF 'manifoldlaw27.CompileBefore'. -/
def compileBeforeUptoCard : Claim7 := { stood := { row := compileBeforeUptoRow, standIns := [], harness := (true, "6a03f898325378b482ba44731f782f951659c365787d45fbdabfedd403ba2fd1"), looks := true }, kinds := [], alts := [], laidByText := true, laidKinds := [.data, .data, .data, .data, .sentinel, .sentinel, .pinned], laidTests := true, laidLooks := .later }
def CompileBeforeUptoCardSaid : Prop := Claim7.holds Tryz.pinned (.plain (OpenSpec.upto compileBeforeSpec)) compileBeforeUptoCard

/-- THE SECOND FORM's CARD OF 'manifoldlaw27.CompileChecks'. -/
def compileChecksUptoCard : Claim7 := { stood := { row := compileChecksUptoRow, standIns := [], harness := (true, "6a03f898325378b482ba44731f782f951659c365787d45fbdabfedd403ba2fd1"), looks := true }, kinds := [], alts := [], laidByText := true, laidKinds := [.data, .data, .data, .data, .sentinel, .sentinel, .pinned], laidTests := true, laidLooks := .later }
def CompileChecksUptoCardSaid : Prop := Claim7.holds Tryz.pinned (.plain (OpenSpec.upto compileChecksSpec)) compileChecksUptoCard
end Rows
end Go.Proofs.YteegbpaakjlodaaGreatDoor
