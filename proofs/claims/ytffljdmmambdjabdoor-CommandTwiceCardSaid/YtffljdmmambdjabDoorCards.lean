/-
  DERIVED. GIVEN WITH THE SEED: THE CARDS: each row of YtffljdmmambdjabDoorRows.lean that lists a variable, with what it lists TIED to the program's text (the seventh form; the later family's looks); each row that meets fmt, with fmt's text TOLD by the authors' own Lean function (tested against real Go, not proved from fmt's source: count such statements apart). THE CARD IS WHAT COUNTS. Prove the row's statement (the work); the ties are given (YtffljdmmambdjabDoorTie.lean); close each card by the builder's one call (the guide's Derived/Test/ToyasCard.lean, 'card_holds'). Laid BY PROGRAM, IN A SANDBOX (cutbox-door.mjs). By AI agents, Wed Nov 11 2026. No macro, syntax, notation, axiom, sorry.
-/
import Derived.Test.YtffljdmmambdjabDoorRows
import GoSem.ClaimSeven
namespace Go.Proofs.YtffljdmmambdjabDoor
namespace Rows

/-- THE TIED CARD OF 'gangsawlaw.CommandTwice'. -/
def commandTwiceCard : Claim7 := { stood := { row := commandTwiceRow, standIns := [], harness := (true, "820517f62e1aa5a97f5090d658da86334b4c940ef1250ee272629c1cd0e8c3c8"), looks := false }, kinds := [], alts := [], laidByText := true, laidKinds := [.data, .data, .data, .data, .pinned], laidTests := true, laidLooks := .later }
def CommandTwiceCardSaid : Prop := Claim7.holds Tryd.pinned (.plain (OpenSpec.ofChange commandTwiceSpec)) commandTwiceCard

/-- THE SECOND FORM's CARD OF 'gangsawlaw.CommandTwice'. -/
def commandTwiceUptoCard : Claim7 := { stood := { row := commandTwiceUptoRow, standIns := [], harness := (true, "820517f62e1aa5a97f5090d658da86334b4c940ef1250ee272629c1cd0e8c3c8"), looks := false }, kinds := [], alts := [], laidByText := true, laidKinds := [.data, .data, .data, .data, .pinned], laidTests := true, laidLooks := .later }
def CommandTwiceUptoCardSaid : Prop := Claim7.holds Tryd.pinned (.plain (OpenSpec.upto commandTwiceSpec)) commandTwiceUptoCard
end Rows
end Go.Proofs.YtffljdmmambdjabDoor
