/-
  DERIVED. GIVEN WITH THE SEED: THE CARDS: each row of YtffljdmmambdjaaGreatDoorRows.lean that lists a variable, with what it lists TIED to the program's text (the seventh form; the later family's looks); each row that meets fmt, with fmt's text TOLD by the authors' own Lean function (tested against real Go, not proved from fmt's source: count such statements apart). THE CARD IS WHAT COUNTS. Prove the row's statement (the work); the ties are given (YtffljdmmambdjaaGreatDoorTie.lean); close each card by the builder's one call (the guide's Derived/Test/ToyasCard.lean, 'card_holds'). Laid BY PROGRAM, IN A SANDBOX (cutbox-door.mjs). By AI agents, Wed Nov 11 2026. No macro, syntax, notation, axiom, sorry.
-/
import Derived.Test.YtffljdmmambdjaaGreatDoorRows
import GoSem.ClaimSeven
namespace Go.Proofs.YtffljdmmambdjaaGreatDoor
namespace Rows

/-- THE TIED CARD OF 'gangsawlaw.DriverSame'. -/
def driverSameCard : Claim7 := { stood := { row := driverSameRow, standIns := [], harness := (true, "b9f956e9c29dd5933c6db2be91099c0db6bb6a3dcdd5342b20f68beb3c87a5e8"), looks := true }, kinds := [], alts := [], laidByText := true, laidKinds := [.data, .data, .data, .data, .sentinel, .sentinel, .pinned], laidTests := true, laidLooks := .later }
def DriverSameCardSaid : Prop := Claim7.holds Tryz.pinned (.plain (OpenSpec.ofChange driverSameSpec)) driverSameCard

/-- THE SECOND FORM's CARD OF 'gangsawlaw.DriverSame'. -/
def driverSameUptoCard : Claim7 := { stood := { row := driverSameUptoRow, standIns := [], harness := (true, "b9f956e9c29dd5933c6db2be91099c0db6bb6a3dcdd5342b20f68beb3c87a5e8"), looks := true }, kinds := [], alts := [], laidByText := true, laidKinds := [.data, .data, .data, .data, .sentinel, .sentinel, .pinned], laidTests := true, laidLooks := .later }
def DriverSameUptoCardSaid : Prop := Claim7.holds Tryz.pinned (.plain (OpenSpec.upto driverSameSpec)) driverSameUptoCard
end Rows
end Go.Proofs.YtffljdmmambdjaaGreatDoor
