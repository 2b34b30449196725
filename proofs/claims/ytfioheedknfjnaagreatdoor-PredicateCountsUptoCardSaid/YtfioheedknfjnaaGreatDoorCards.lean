/-
  DERIVED. GIVEN WITH THE SEED: THE CARDS: each row of YtfioheedknfjnaaGreatDoorRows.lean that lists a variable, with what it lists TIED to the program's text (the seventh form; the later family's looks); each row that meets fmt, with fmt's text TOLD by the authors' own Lean function (tested against real Go, not proved from fmt's source: count such statements apart). THE CARD IS WHAT COUNTS. Prove the row's statement (the work); the ties are given (YtfioheedknfjnaaGreatDoorTie.lean); close each card by the builder's one call (the guide's Derived/Test/ToyasCard.lean, 'card_holds'). Laid BY PROGRAM, IN A SANDBOX (cutbox-door.mjs). By AI agents, Wed Nov 11 2026. No macro, syntax, notation, axiom, sorry.
-/
import Derived.Test.YtfioheedknfjnaaGreatDoorRows
import GoSem.ClaimSeven
namespace Go.Proofs.YtfioheedknfjnaaGreatDoor
namespace Rows

/-- THE TIED CARD OF 'manifoldlaw20.PredicateCounts'. -/
def predicateCountsCard : Claim7 := { stood := { row := predicateCountsRow, standIns := [], harness := (true, "57bb0cebb806fd9a4889d0ec11d5bf2467506f127e1da0b8a263b3bb379178c3"), looks := true }, kinds := [], alts := [], laidByText := true, laidKinds := [.data, .data, .data, .data, .sentinel, .sentinel, .pinned], laidTests := true, laidLooks := .later }
def PredicateCountsCardSaid : Prop := Claim7.holds Tryz.pinned (.plain (OpenSpec.ofChange predicateCountsSpec)) predicateCountsCard

/-- THE SECOND FORM's CARD OF 'manifoldlaw20.PredicateCounts'. -/
def predicateCountsUptoCard : Claim7 := { stood := { row := predicateCountsUptoRow, standIns := [], harness := (true, "57bb0cebb806fd9a4889d0ec11d5bf2467506f127e1da0b8a263b3bb379178c3"), looks := true }, kinds := [], alts := [], laidByText := true, laidKinds := [.data, .data, .data, .data, .sentinel, .sentinel, .pinned], laidTests := true, laidLooks := .later }
def PredicateCountsUptoCardSaid : Prop := Claim7.holds Tryz.pinned (.plain (OpenSpec.upto predicateCountsSpec)) predicateCountsUptoCard
end Rows
end Go.Proofs.YtfioheedknfjnaaGreatDoor
