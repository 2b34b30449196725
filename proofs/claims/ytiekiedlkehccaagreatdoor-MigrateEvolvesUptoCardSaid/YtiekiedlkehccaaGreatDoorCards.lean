/-
  DERIVED. GIVEN WITH THE SEED: THE CARDS: each row of YtiekiedlkehccaaGreatDoorRows.lean that lists a variable, with what it lists TIED to the program's text (the seventh form; the later family's looks); each row that meets fmt, with fmt's text TOLD by the authors' own Lean function (tested against real Go, not proved from fmt's source: count such statements apart). THE CARD IS WHAT COUNTS. Prove the row's statement (the work); the ties are given (YtiekiedlkehccaaGreatDoorTie.lean); close each card by the builder's one call (the guide's Derived/Test/ToyasCard.lean, 'card_holds'). Laid BY PROGRAM, IN A SANDBOX (cutbox-door.mjs). By AI agents, Wed Nov 11 2026. No macro, syntax, notation, axiom, sorry.
-/
import Derived.Test.YtiekiedlkehccaaGreatDoorRows
import GoSem.ClaimSeven
namespace Go.Proofs.YtiekiedlkehccaaGreatDoor
namespace Rows

/-- THE TIED CARD OF 'manifoldlaw40.MigrateEvolves'. -/
def migrateEvolvesCard : Claim7 := { stood := { row := migrateEvolvesRow, standIns := [], harness := (true, "9661ca46eda2c0f32ac96ea4d5970d0f4ffb0a15529927b0ed1d7f4e66f2116f"), looks := true }, kinds := [], alts := [], laidByText := true, laidKinds := [.data, .data, .data, .data, .pinned], laidTests := true, laidLooks := .later }
def MigrateEvolvesCardSaid : Prop := Claim7.holds Tryz.pinned (.plain (OpenSpec.ofChange migrateEvolvesSpec)) migrateEvolvesCard

/-- THE TIED CARD OF 'manifoldlaw16.ExprEquals'. -/
def exprEqualsCard : Claim7 := { stood := { row := exprEqualsRow, standIns := [], harness := (true, "9661ca46eda2c0f32ac96ea4d5970d0f4ffb0a15529927b0ed1d7f4e66f2116f"), looks := true }, kinds := [], alts := [], laidByText := true, laidKinds := [.data, .data, .data, .data, .sentinel, .sentinel, .pinned], laidTests := true, laidLooks := .later }
def ExprEqualsCardSaid : Prop := Claim7.holds Tryz.pinned (.plain (OpenSpec.ofChange exprEqualsSpec)) exprEqualsCard

/-- THE TIED CARD OF 'manifoldlaw16.ExprDepends'. -/
def exprDependsCard : Claim7 := { stood := { row := exprDependsRow, standIns := [], harness := (true, "9661ca46eda2c0f32ac96ea4d5970d0f4ffb0a15529927b0ed1d7f4e66f2116f"), looks := true }, kinds := [], alts := [], laidByText := true, laidKinds := [.data, .data, .data, .data, .sentinel, .sentinel, .pinned], laidTests := true, laidLooks := .later }
def ExprDependsCardSaid : Prop := Claim7.holds Tryz.pinned (.plain (OpenSpec.ofChange exprDependsSpec)) exprDependsCard

/-- THE SECOND FORM's CARD OF 'manifoldlaw40.MigrateEvolves'. -/
def migrateEvolvesUptoCard : Claim7 := { stood := { row := migrateEvolvesUptoRow, standIns := [], harness := (true, "9661ca46eda2c0f32ac96ea4d5970d0f4ffb0a15529927b0ed1d7f4e66f2116f"), looks := true }, kinds := [], alts := [], laidByText := true, laidKinds := [.data, .data, .data, .data, .pinned], laidTests := true, laidLooks := .later }
def MigrateEvolvesUptoCardSaid : Prop := Claim7.holds Tryz.pinned (.plain (OpenSpec.upto migrateEvolvesSpec)) migrateEvolvesUptoCard

/-- THE SECOND FORM's CARD OF 'manifoldlaw16.ExprEquals'. -/
def exprEqualsUptoCard : Claim7 := { stood := { row := exprEqualsUptoRow, standIns := [], harness := (true, "9661ca46eda2c0f32ac96ea4d5970d0f4ffb0a15529927b0ed1d7f4e66f2116f"), looks := true }, kinds := [], alts := [], laidByText := true, laidKinds := [.data, .data, .data, .data, .sentinel, .sentinel, .pinned], laidTests := true, laidLooks := .later }
def ExprEqualsUptoCardSaid : Prop := Claim7.holds Tryz.pinned (.plain (OpenSpec.upto exprEqualsSpec)) exprEqualsUptoCard

/-- THE SECOND FORM's CARD OF 'manifoldlaw16.ExprDepends'. -/
def exprDependsUptoCard : Claim7 := { stood := { row := exprDependsUptoRow, standIns := [], harness := (true, "9661ca46eda2c0f32ac96ea4d5970d0f4ffb0a15529927b0ed1d7f4e66f2116f"), looks := true }, kinds := [], alts := [], laidByText := true, laidKinds := [.data, .data, .data, .data, .sentinel, .sentinel, .pinned], laidTests := true, laidLooks := .later }
def ExprDependsUptoCardSaid : Prop := Claim7.holds Tryz.pinned (.plain (OpenSpec.upto exprDependsSpec)) exprDependsUptoCard
end Rows
end Go.Proofs.YtiekiedlkehccaaGreatDoor
