/-
  DERIVED. GIVEN WITH THE SEED: THE CARDS: each row of YtholoaojlcnacaaGreatDoorRows.lean that lists a variable, with what it lists TIED to the program's text (the seventh form; the later family's looks); each row that meets fmt, with fmt's text TOLD by the authors' own Lean function (tested against real Go, not proved from fmt's source: count such statements apart). THE CARD IS WHAT COUNTS. Prove the row's statement (the work); the ties are given (YtholoaojlcnacaaGreatDoorTie.lean); close each card by the builder's one call (the guide's Derived/Test/ToyasCard.lean, 'card_holds'). Laid BY PROGRAM, IN A SANDBOX (cutbox-door.mjs). By AI agents, Wed Nov 11 2026. No macro, syntax, notation, axiom, sorry.
-/
import Derived.Test.YtholoaojlcnacaaGreatDoorRows
import GoSem.ClaimSeven
namespace Go.Proofs.YtholoaojlcnacaaGreatDoor
namespace Rows

/-- THE TIED CARD OF 'manifoldlaw18.MappingFits'. -/
def mappingFitsCard : Claim7 := { stood := { row := mappingFitsRow, standIns := [], harness := (true, "517006c0a998290daf19b29944b866339bccd2437607a642acda341813212328"), looks := true }, kinds := [], alts := [], laidByText := true, laidKinds := [.data, .data, .data, .data, .sentinel, .sentinel, .pinned], laidTests := true, laidLooks := .later }
def MappingFitsCardSaid : Prop := Claim7.holds Tryz.pinned (.plain (OpenSpec.ofChange mappingFitsSpec)) mappingFitsCard

/-- THE TIED CARD OF 'manifoldlaw18.MappingOrder'. -/
def mappingOrderCard : Claim7 := { stood := { row := mappingOrderRow, standIns := [], harness := (true, "517006c0a998290daf19b29944b866339bccd2437607a642acda341813212328"), looks := true }, kinds := [], alts := [], laidByText := true, laidKinds := [.data, .data, .data, .data, .sentinel, .sentinel, .pinned], laidTests := true, laidLooks := .later }
def MappingOrderCardSaid : Prop := Claim7.holds Tryz.pinned (.plain (OpenSpec.ofChange mappingOrderSpec)) mappingOrderCard

/-- THE TIED CARD OF 'manifoldlaw16.ExprCalculates'. -/
def exprCalculatesCard : Claim7 := { stood := { row := exprCalculatesRow, standIns := [], harness := (true, "517006c0a998290daf19b29944b866339bccd2437607a642acda341813212328"), looks := true }, kinds := [], alts := [], laidByText := true, laidKinds := [.data, .data, .data, .data, .sentinel, .sentinel, .pinned], laidTests := true, laidLooks := .later }
def ExprCalculatesCardSaid : Prop := Claim7.holds Tryz.pinned (.plain (OpenSpec.ofChange exprCalculatesSpec)) exprCalculatesCard

/-- THE TIED CARD OF 'manifoldlaw16.ExprPaths'. -/
def exprPathsCard : Claim7 := { stood := { row := exprPathsRow, standIns := [], harness := (true, "517006c0a998290daf19b29944b866339bccd2437607a642acda341813212328"), looks := true }, kinds := [], alts := [], laidByText := true, laidKinds := [.data, .data, .data, .data, .sentinel, .sentinel, .pinned], laidTests := true, laidLooks := .later }
def ExprPathsCardSaid : Prop := Claim7.holds Tryz.pinned (.plain (OpenSpec.ofChange exprPathsSpec)) exprPathsCard

/-- THE TIED CARD OF 'manifoldlaw16.ExprEquals'. -/
def exprEqualsCard : Claim7 := { stood := { row := exprEqualsRow, standIns := [], harness := (true, "517006c0a998290daf19b29944b866339bccd2437607a642acda341813212328"), looks := true }, kinds := [], alts := [], laidByText := true, laidKinds := [.data, .data, .data, .data, .sentinel, .sentinel, .pinned], laidTests := true, laidLooks := .later }
def ExprEqualsCardSaid : Prop := Claim7.holds Tryz.pinned (.plain (OpenSpec.ofChange exprEqualsSpec)) exprEqualsCard

/-- THE SECOND FORM's CARD OF 'manifoldlaw18.MappingFits'. -/
def mappingFitsUptoCard : Claim7 := { stood := { row := mappingFitsUptoRow, standIns := [], harness := (true, "517006c0a998290daf19b29944b866339bccd2437607a642acda341813212328"), looks := true }, kinds := [], alts := [], laidByText := true, laidKinds := [.data, .data, .data, .data, .sentinel, .sentinel, .pinned], laidTests := true, laidLooks := .later }
def MappingFitsUptoCardSaid : Prop := Claim7.holds Tryz.pinned (.plain (OpenSpec.upto mappingFitsSpec)) mappingFitsUptoCard

/-- THE SECOND FORM's CARD OF 'manifoldlaw18.MappingOrder'. -/
def mappingOrderUptoCard : Claim7 := { stood := { row := mappingOrderUptoRow, standIns := [], harness := (true, "517006c0a998290daf19b29944b866339bccd2437607a642acda341813212328"), looks := true }, kinds := [], alts := [], laidByText := true, laidKinds := [.data, .data, .data, .data, .sentinel, .sentinel, .pinned], laidTests := true, laidLooks := .later }
def MappingOrderUptoCardSaid : Prop := Claim7.holds Tryz.pinned (.plain (OpenSpec.upto mappingOrderSpec)) mappingOrderUptoCard

/-- THE SECOND FORM's CARD OF 'manifoldlaw16.ExprCalculates'. -/
def exprCalculatesUptoCard : Claim7 := { stood := { row := exprCalculatesUptoRow, standIns := [], harness := (true, "517006c0a998290daf19b29944b866339bccd2437607a642acda341813212328"), looks := true }, kinds := [], alts := [], laidByText := true, laidKinds := [.data, .data, .data, .data, .sentinel, .sentinel, .pinned], laidTests := true, laidLooks := .later }
def ExprCalculatesUptoCardSaid : Prop := Claim7.holds Tryz.pinned (.plain (OpenSpec.upto exprCalculatesSpec)) exprCalculatesUptoCard

/-- THE SECOND FORM's CARD OF 'manifoldlaw16.ExprPaths'. -/
def exprPathsUptoCard : Claim7 := { stood := { row := exprPathsUptoRow, standIns := [], harness := (true, "517006c0a998290daf19b29944b866339bccd2437607a642acda341813212328"), looks := true }, kinds := [], alts := [], laidByText := true, laidKinds := [.data, .data, .data, .data, .sentinel, .sentinel, .pinned], laidTests := true, laidLooks := .later }
def ExprPathsUptoCardSaid : Prop := Claim7.holds Tryz.pinned (.plain (OpenSpec.upto exprPathsSpec)) exprPathsUptoCard

/-- THE SECOND FORM's CARD OF 'manifoldlaw16.ExprEquals'. -/
def exprEqualsUptoCard : Claim7 := { stood := { row := exprEqualsUptoRow, standIns := [], harness := (true, "517006c0a998290daf19b29944b866339bccd2437607a642acda341813212328"), looks := true }, kinds := [], alts := [], laidByText := true, laidKinds := [.data, .data, .data, .data, .sentinel, .sentinel, .pinned], laidTests := true, laidLooks := .later }
def ExprEqualsUptoCardSaid : Prop := Claim7.holds Tryz.pinned (.plain (OpenSpec.upto exprEqualsSpec)) exprEqualsUptoCard
end Rows
end Go.Proofs.YtholoaojlcnacaaGreatDoor
