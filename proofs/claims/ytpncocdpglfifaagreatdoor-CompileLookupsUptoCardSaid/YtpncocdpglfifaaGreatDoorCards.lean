/-
  DERIVED. GIVEN WITH THE SEED: THE CARDS: each row of YtpncocdpglfifaaGreatDoorRows.lean that lists a variable, with what it lists TIED to the program's text (the seventh form; the later family's looks); each row that meets fmt, with fmt's text TOLD by the authors' own Lean function (tested against real Go, not proved from fmt's source: count such statements apart). THE CARD IS WHAT COUNTS. Prove the row's statement (the work); the ties are given (YtpncocdpglfifaaGreatDoorTie.lean); close each card by the builder's one call (the guide's Derived/Test/ToyasCard.lean, 'card_holds'). Laid BY PROGRAM, IN A SANDBOX (cutbox-door.mjs). By AI agents, Wed Nov 11 2026. No macro, syntax, notation, axiom, sorry.
-/
import Derived.Test.YtpncocdpglfifaaGreatDoorRows
import GoSem.ClaimSeven
namespace Go.Proofs.YtpncocdpglfifaaGreatDoor
namespace Rows

/-- THE TIED CARD OF 'manifoldlaw27.CompileLookups'. -/
def compileLookupsCard : Claim7 := { stood := { row := compileLookupsRow, standIns := [], harness := (true, "786884d247fb3954d8dbcdfc7ddbd605bf748e8b20b4ed0015aee68bc84072d5"), looks := true }, kinds := [], alts := [], laidByText := true, laidKinds := [.data, .data, .data, .data, .sentinel, .sentinel, .pinned], laidTests := true, laidLooks := .later }
def CompileLookupsCardSaid : Prop := Claim7.holds Tryz.pinned (.plain (OpenSpec.ofChange compileLookupsSpec)) compileLookupsCard

/-- THE SECOND FORM's CARD OF 'manifoldlaw27.CompileLookups'. -/
def compileLookupsUptoCard : Claim7 := { stood := { row := compileLookupsUptoRow, standIns := [], harness := (true, "786884d247fb3954d8dbcdfc7ddbd605bf748e8b20b4ed0015aee68bc84072d5"), looks := true }, kinds := [], alts := [], laidByText := true, laidKinds := [.data, .data, .data, .data, .sentinel, .sentinel, .pinned], laidTests := true, laidLooks := .later }
def CompileLookupsUptoCardSaid : Prop := Claim7.holds Tryz.pinned (.plain (OpenSpec.upto compileLookupsSpec)) compileLookupsUptoCard
end Rows
end Go.Proofs.YtpncocdpglfifaaGreatDoor
