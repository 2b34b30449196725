/-
  DERIVED. GIVEN WITH THE SEED: THE CARDS: each row of YtpkgbjneglfkhaaGreatDoorRows.lean that lists a variable, with what it lists TIED to the program's text (the seventh form; the later family's looks); each row that meets fmt, with fmt's text TOLD by the authors' own Lean function (tested against real Go, not proved from fmt's source: count such statements apart). THE CARD IS WHAT COUNTS. Prove the row's statement (the work); the ties are given (YtpkgbjneglfkhaaGreatDoorTie.lean); close each card by the builder's one call (the guide's Derived/Test/ToyasCard.lean, 'card_holds'). Laid BY PROGRAM, IN A SANDBOX (cutbox-door.mjs). By AI agents, Wed Nov 11 2026. No macro, syntax, notation, axiom, sorry.
-/
import Derived.Test.YtpkgbjneglfkhaaGreatDoorRows
import GoSem.ClaimSeven
namespace Go.Proofs.YtpkgbjneglfkhaaGreatDoor
namespace Rows

/-- THE TIED CARD OF 'manifoldlaw40.MigrateEvolves'. -/
def migrateEvolvesCard : Claim7 := { stood := { row := migrateEvolvesRow, standIns := [], harness := (true, "9fd80276a605a8ea8a275e189e18a6dc8947cdc0f06c908b55f4797eec7b590c"), looks := true }, kinds := [], alts := [], laidByText := true, laidKinds := [.data, .data, .data, .data, .pinned], laidTests := true, laidLooks := .later }
def MigrateEvolvesCardSaid : Prop := Claim7.holds Tryz.pinned (.plain (OpenSpec.ofChange migrateEvolvesSpec)) migrateEvolvesCard

/-- THE TIED CARD OF 'manifoldlaw18.MappingForms'. -/
def mappingFormsCard : Claim7 := { stood := { row := mappingFormsRow, standIns := [], harness := (true, "9fd80276a605a8ea8a275e189e18a6dc8947cdc0f06c908b55f4797eec7b590c"), looks := true }, kinds := [], alts := [], laidByText := true, laidKinds := [.data, .data, .data, .data, .sentinel, .sentinel, .pinned], laidTests := true, laidLooks := .later }
def MappingFormsCardSaid : Prop := Claim7.holds Tryz.pinned (.plain (OpenSpec.ofChange mappingFormsSpec)) mappingFormsCard

/-- THE TIED CARD OF 'manifoldlaw18.MappingFits'. -/
def mappingFitsCard : Claim7 := { stood := { row := mappingFitsRow, standIns := [], harness := (true, "9fd80276a605a8ea8a275e189e18a6dc8947cdc0f06c908b55f4797eec7b590c"), looks := true }, kinds := [], alts := [], laidByText := true, laidKinds := [.data, .data, .data, .data, .sentinel, .sentinel, .pinned], laidTests := true, laidLooks := .later }
def MappingFitsCardSaid : Prop := Claim7.holds Tryz.pinned (.plain (OpenSpec.ofChange mappingFitsSpec)) mappingFitsCard

/-- THE TIED CARD OF 'manifoldlaw18.MappingOrder'. -/
def mappingOrderCard : Claim7 := { stood := { row := mappingOrderRow, standIns := [], harness := (true, "9fd80276a605a8ea8a275e189e18a6dc8947cdc0f06c908b55f4797eec7b590c"), looks := true }, kinds := [], alts := [], laidByText := true, laidKinds := [.data, .data, .data, .data, .sentinel, .sentinel, .pinned], laidTests := true, laidLooks := .later }
def MappingOrderCardSaid : Prop := Claim7.holds Tryz.pinned (.plain (OpenSpec.ofChange mappingOrderSpec)) mappingOrderCard

/-- THE TIED CARD OF 'manifoldlaw18.MappingEquals'. -/
def mappingEqualsCard : Claim7 := { stood := { row := mappingEqualsRow, standIns := [], harness := (true, "9fd80276a605a8ea8a275e189e18a6dc8947cdc0f06c908b55f4797eec7b590c"), looks := true }, kinds := [], alts := [], laidByText := true, laidKinds := [.data, .data, .data, .data, .sentinel, .sentinel, .pinned], laidTests := true, laidLooks := .later }
def MappingEqualsCardSaid : Prop := Claim7.holds Tryz.pinned (.plain (OpenSpec.ofChange mappingEqualsSpec)) mappingEqualsCard

/-- THE TIED CARD OF 'manifoldlaw18.MappingPaths'. -/
def mappingPathsCard : Claim7 := { stood := { row := mappingPathsRow, standIns := [], harness := (true, "9fd80276a605a8ea8a275e189e18a6dc8947cdc0f06c908b55f4797eec7b590c"), looks := true }, kinds := [], alts := [], laidByText := true, laidKinds := [.data, .data, .data, .data, .sentinel, .sentinel, .pinned], laidTests := true, laidLooks := .later }
def MappingPathsCardSaid : Prop := Claim7.holds Tryz.pinned (.plain (OpenSpec.ofChange mappingPathsSpec)) mappingPathsCard

/-- THE SECOND FORM's CARD OF 'manifoldlaw40.MigrateEvolves'. -/
def migrateEvolvesUptoCard : Claim7 := { stood := { row := migrateEvolvesUptoRow, standIns := [], harness := (true, "9fd80276a605a8ea8a275e189e18a6dc8947cdc0f06c908b55f4797eec7b590c"), looks := true }, kinds := [], alts := [], laidByText := true, laidKinds := [.data, .data, .data, .data, .pinned], laidTests := true, laidLooks := .later }
def MigrateEvolvesUptoCardSaid : Prop := Claim7.holds Tryz.pinned (.plain (OpenSpec.upto migrateEvolvesSpec)) migrateEvolvesUptoCard

/-- THE SECOND FORM's CARD OF 'manifoldlaw18.MappingForms'. -/
def mappingFormsUptoCard : Claim7 := { stood := { row := mappingFormsUptoRow, standIns := [], harness := (true, "9fd80276a605a8ea8a275e189e18a6dc8947cdc0f06c908b55f4797eec7b590c"), looks := true }, kinds := [], alts := [], laidByText := true, laidKinds := [.data, .data, .data, .data, .sentinel, .sentinel, .pinned], laidTests := true, laidLooks := .later }
def MappingFormsUptoCardSaid : Prop := Claim7.holds Tryz.pinned (.plain (OpenSpec.upto mappingFormsSpec)) mappingFormsUptoCard

/-- THE SECOND FORM's CARD OF 'manifoldlaw18.MappingFits'. -/
def mappingFitsUptoCard : Claim7 := { stood := { row := mappingFitsUptoRow, standIns := [], harness := (true, "9fd80276a605a8ea8a275e189e18a6dc8947cdc0f06c908b55f4797eec7b590c"), looks := true }, kinds := [], alts := [], laidByText := true, laidKinds := [.data, .data, .data, .data, .sentinel, .sentinel, .pinned], laidTests := true, laidLooks := .later }
def MappingFitsUptoCardSaid : Prop := Claim7.holds Tryz.pinned (.plain (OpenSpec.upto mappingFitsSpec)) mappingFitsUptoCard

/-- THE SECOND FORM's CARD OF 'manifoldlaw18.MappingOrder'. -/
def mappingOrderUptoCard : Claim7 := { stood := { row := mappingOrderUptoRow, standIns := [], harness := (true, "9fd80276a605a8ea8a275e189e18a6dc8947cdc0f06c908b55f4797eec7b590c"), looks := true }, kinds := [], alts := [], laidByText := true, laidKinds := [.data, .data, .data, .data, .sentinel, .sentinel, .pinned], laidTests := true, laidLooks := .later }
def MappingOrderUptoCardSaid : Prop := Claim7.holds Tryz.pinned (.plain (OpenSpec.upto mappingOrderSpec)) mappingOrderUptoCard

/-- THE SECOND FORM's CARD OF 'manifoldlaw18.MappingEquals'. -/
def mappingEqualsUptoCard : Claim7 := { stood := { row := mappingEqualsUptoRow, standIns := [], harness := (true, "9fd80276a605a8ea8a275e189e18a6dc8947cdc0f06c908b55f4797eec7b590c"), looks := true }, kinds := [], alts := [], laidByText := true, laidKinds := [.data, .data, .data, .data, .sentinel, .sentinel, .pinned], laidTests := true, laidLooks := .later }
def MappingEqualsUptoCardSaid : Prop := Claim7.holds Tryz.pinned (.plain (OpenSpec.upto mappingEqualsSpec)) mappingEqualsUptoCard

/-- THE SECOND FORM's CARD OF 'manifoldlaw18.MappingPaths'. -/
def mappingPathsUptoCard : Claim7 := { stood := { row := mappingPathsUptoRow, standIns := [], harness := (true, "9fd80276a605a8ea8a275e189e18a6dc8947cdc0f06c908b55f4797eec7b590c"), looks := true }, kinds := [], alts := [], laidByText := true, laidKinds := [.data, .data, .data, .data, .sentinel, .sentinel, .pinned], laidTests := true, laidLooks := .later }
def MappingPathsUptoCardSaid : Prop := Claim7.holds Tryz.pinned (.plain (OpenSpec.upto mappingPathsSpec)) mappingPathsUptoCard
end Rows
end Go.Proofs.YtpkgbjneglfkhaaGreatDoor
