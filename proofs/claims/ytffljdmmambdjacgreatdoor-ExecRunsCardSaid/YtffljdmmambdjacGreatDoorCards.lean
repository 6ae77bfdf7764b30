/-
  DERIVED. GIVEN WITH THE SEED: THE CARDS: each row of YtffljdmmambdjacGreatDoorRows.lean that lists a variable, with what it lists TIED to the program's text (the seventh form; the later family's looks); each row that meets fmt, with fmt's text TOLD by the authors' own Lean function (tested against real Go, not proved from fmt's source: count such statements apart). THE CARD IS WHAT COUNTS. Prove the row's statement (the work); the ties are given (YtffljdmmambdjacGreatDoorTie.lean); close each card by the builder's one call (the guide's Derived/Test/ToyasCard.lean, 'card_holds'). Laid BY PROGRAM, IN A SANDBOX (cutbox-door.mjs). By AI agents, Wed Nov 11 2026. No macro, syntax, notation, axiom, sorry.
-/
import Derived.Test.YtffljdmmambdjacGreatDoorRows
import GoSem.ClaimSeven
namespace Go.Proofs.YtffljdmmambdjacGreatDoor
namespace Rows

/-- THE TIED CARD OF 'gangsawlaw.ExecLine'. -/
def execLineCard : Claim7 := { stood := { row := execLineRow, standIns := [], harness := (true, "9ab1331a6b96b3c3520091a15f421155077d78ec8e12f48cbefae1dfb71190e2"), looks := true }, kinds := [], alts := [], laidByText := true, laidKinds := [.data, .data, .data, .data, .sentinel, .sentinel, .pinned], laidTests := true, laidLooks := .later }
def ExecLineCardSaid : Prop := Claim7.holds Tryz.pinned (.plain (OpenSpec.ofChange execLineSpec)) execLineCard

/-- THE TIED CARD OF 'gangsawlaw.ExecHead'. -/
def execHeadCard : Claim7 := { stood := { row := execHeadRow, standIns := [], harness := (true, "9ab1331a6b96b3c3520091a15f421155077d78ec8e12f48cbefae1dfb71190e2"), looks := true }, kinds := [], alts := [], laidByText := true, laidKinds := [.data, .data, .data, .data, .sentinel, .sentinel, .pinned], laidTests := true, laidLooks := .later }
def ExecHeadCardSaid : Prop := Claim7.holds Tryz.pinned (.plain (OpenSpec.ofChange execHeadSpec)) execHeadCard

/-- THE TIED CARD OF 'gangsawlaw.ExecLives'. -/
def execLivesCard : Claim7 := { stood := { row := execLivesRow, standIns := [], harness := (true, "9ab1331a6b96b3c3520091a15f421155077d78ec8e12f48cbefae1dfb71190e2"), looks := true }, kinds := [], alts := [], laidByText := true, laidKinds := [.data, .data, .data, .data, .sentinel, .sentinel, .pinned], laidTests := true, laidLooks := .later }
def ExecLivesCardSaid : Prop := Claim7.holds Tryz.pinned (.plain (OpenSpec.ofChange execLivesSpec)) execLivesCard

/-- THE TIED CARD OF 'gangsawlaw.ShellSays'. -/
def shellSaysCard : Claim7 := { stood := { row := shellSaysRow, standIns := [], harness := (true, "9ab1331a6b96b3c3520091a15f421155077d78ec8e12f48cbefae1dfb71190e2"), looks := true }, kinds := [], alts := [], laidByText := true, laidKinds := [.data, .data, .data, .data, .pinned], laidTests := true, laidLooks := .later }
def ShellSaysCardSaid : Prop := Claim7.holds Tryz.pinned (.plain (OpenSpec.ofChange shellSaysSpec)) shellSaysCard

/-- THE TIED CARD OF 'gangsawlaw.ExecSame'. -/
def execSameCard : Claim7 := { stood := { row := execSameRow, standIns := [], harness := (true, "9ab1331a6b96b3c3520091a15f421155077d78ec8e12f48cbefae1dfb71190e2"), looks := true }, kinds := [], alts := [], laidByText := true, laidKinds := [.data, .data, .data, .data, .sentinel, .sentinel, .pinned], laidTests := true, laidLooks := .later }
def ExecSameCardSaid : Prop := Claim7.holds Tryz.pinned (.plain (OpenSpec.ofChange execSameSpec)) execSameCard

/-- THE TIED CARD OF 'gangsawlaw.ExecPicks'. -/
def execPicksCard : Claim7 := { stood := { row := execPicksRow, standIns := [], harness := (true, "9ab1331a6b96b3c3520091a15f421155077d78ec8e12f48cbefae1dfb71190e2"), looks := true }, kinds := [], alts := [], laidByText := true, laidKinds := [.data, .data, .data, .data, .sentinel, .sentinel, .pinned], laidTests := true, laidLooks := .later }
def ExecPicksCardSaid : Prop := Claim7.holds Tryz.pinned (.plain (OpenSpec.ofChange execPicksSpec)) execPicksCard

/-- THE TIED CARD OF 'gangsawlaw.ExecSteps'. -/
def execStepsCard : Claim7 := { stood := { row := execStepsRow, standIns := [], harness := (true, "9ab1331a6b96b3c3520091a15f421155077d78ec8e12f48cbefae1dfb71190e2"), looks := true }, kinds := [], alts := [], laidByText := true, laidKinds := [.data, .data, .data, .data, .sentinel, .sentinel, .pinned], laidTests := true, laidLooks := .later }
def ExecStepsCardSaid : Prop := Claim7.holds Tryz.pinned (.plain (OpenSpec.ofChange execStepsSpec)) execStepsCard

/-- THE TIED CARD OF 'gangsawlaw.ExecRuns'. -/
def execRunsCard : Claim7 := { stood := { row := execRunsRow, standIns := [], harness := (true, "9ab1331a6b96b3c3520091a15f421155077d78ec8e12f48cbefae1dfb71190e2"), looks := true }, kinds := [], alts := [], laidByText := true, laidKinds := [.data, .data, .data, .data, .sentinel, .sentinel, .pinned], laidTests := true, laidLooks := .later }
def ExecRunsCardSaid : Prop := Claim7.holds Tryz.pinned (.plain (OpenSpec.ofChange execRunsSpec)) execRunsCard

/-- THE TIED CARD OF 'gangsawlaw.DriverPicks'. -/
def driverPicksCard : Claim7 := { stood := { row := driverPicksRow, standIns := [], harness := (true, "9ab1331a6b96b3c3520091a15f421155077d78ec8e12f48cbefae1dfb71190e2"), looks := true }, kinds := [], alts := [], laidByText := true, laidKinds := [.data, .data, .data, .data, .sentinel, .sentinel, .pinned], laidTests := true, laidLooks := .later }
def DriverPicksCardSaid : Prop := Claim7.holds Tryz.pinned (.plain (OpenSpec.ofChange driverPicksSpec)) driverPicksCard

/-- THE SECOND FORM's CARD OF 'gangsawlaw.ExecLine'. -/
def execLineUptoCard : Claim7 := { stood := { row := execLineUptoRow, standIns := [], harness := (true, "9ab1331a6b96b3c3520091a15f421155077d78ec8e12f48cbefae1dfb71190e2"), looks := true }, kinds := [], alts := [], laidByText := true, laidKinds := [.data, .data, .data, .data, .sentinel, .sentinel, .pinned], laidTests := true, laidLooks := .later }
def ExecLineUptoCardSaid : Prop := Claim7.holds Tryz.pinned (.plain (OpenSpec.upto execLineSpec)) execLineUptoCard

/-- THE SECOND FORM's CARD OF 'gangsawlaw.ExecHead'. -/
def execHeadUptoCard : Claim7 := { stood := { row := execHeadUptoRow, standIns := [], harness := (true, "9ab1331a6b96b3c3520091a15f421155077d78ec8e12f48cbefae1dfb71190e2"), looks := true }, kinds := [], alts := [], laidByText := true, laidKinds := [.data, .data, .data, .data, .sentinel, .sentinel, .pinned], laidTests := true, laidLooks := .later }
def ExecHeadUptoCardSaid : Prop := Claim7.holds Tryz.pinned (.plain (OpenSpec.upto execHeadSpec)) execHeadUptoCard

/-- THE SECOND FORM's CARD OF 'gangsawlaw.ExecLives'. -/
def execLivesUptoCard : Claim7 := { stood := { row := execLivesUptoRow, standIns := [], harness := (true, "9ab1331a6b96b3c3520091a15f421155077d78ec8e12f48cbefae1dfb71190e2"), looks := true }, kinds := [], alts := [], laidByText := true, laidKinds := [.data, .data, .data, .data, .sentinel, .sentinel, .pinned], laidTests := true, laidLooks := .later }
def ExecLivesUptoCardSaid : Prop := Claim7.holds Tryz.pinned (.plain (OpenSpec.upto execLivesSpec)) execLivesUptoCard

/-- THE SECOND FORM's CARD OF 'gangsawlaw.ShellSays'. -/
def shellSaysUptoCard : Claim7 := { stood := { row := shellSaysUptoRow, standIns := [], harness := (true, "9ab1331a6b96b3c3520091a15f421155077d78ec8e12f48cbefae1dfb71190e2"), looks := true }, kinds := [], alts := [], laidByText := true, laidKinds := [.data, .data, .data, .data, .pinned], laidTests := true, laidLooks := .later }
def ShellSaysUptoCardSaid : Prop := Claim7.holds Tryz.pinned (.plain (OpenSpec.upto shellSaysSpec)) shellSaysUptoCard

/-- THE SECOND FORM's CARD OF 'gangsawlaw.ExecSame'. -/
def execSameUptoCard : Claim7 := { stood := { row := execSameUptoRow, standIns := [], harness := (true, "9ab1331a6b96b3c3520091a15f421155077d78ec8e12f48cbefae1dfb71190e2"), looks := true }, kinds := [], alts := [], laidByText := true, laidKinds := [.data, .data, .data, .data, .sentinel, .sentinel, .pinned], laidTests := true, laidLooks := .later }
def ExecSameUptoCardSaid : Prop := Claim7.holds Tryz.pinned (.plain (OpenSpec.upto execSameSpec)) execSameUptoCard

/-- THE SECOND FORM's CARD OF 'gangsawlaw.ExecPicks'. -/
def execPicksUptoCard : Claim7 := { stood := { row := execPicksUptoRow, standIns := [], harness := (true, "9ab1331a6b96b3c3520091a15f421155077d78ec8e12f48cbefae1dfb71190e2"), looks := true }, kinds := [], alts := [], laidByText := true, laidKinds := [.data, .data, .data, .data, .sentinel, .sentinel, .pinned], laidTests := true, laidLooks := .later }
def ExecPicksUptoCardSaid : Prop := Claim7.holds Tryz.pinned (.plain (OpenSpec.upto execPicksSpec)) execPicksUptoCard

/-- THE SECOND FORM's CARD OF 'gangsawlaw.ExecSteps'. -/
def execStepsUptoCard : Claim7 := { stood := { row := execStepsUptoRow, standIns := [], harness := (true, "9ab1331a6b96b3c3520091a15f421155077d78ec8e12f48cbefae1dfb71190e2"), looks := true }, kinds := [], alts := [], laidByText := true, laidKinds := [.data, .data, .data, .data, .sentinel, .sentinel, .pinned], laidTests := true, laidLooks := .later }
def ExecStepsUptoCardSaid : Prop := Claim7.holds Tryz.pinned (.plain (OpenSpec.upto execStepsSpec)) execStepsUptoCard

/-- THE SECOND FORM's CARD OF 'gangsawlaw.ExecRuns'. -/
def execRunsUptoCard : Claim7 := { stood := { row := execRunsUptoRow, standIns := [], harness := (true, "9ab1331a6b96b3c3520091a15f421155077d78ec8e12f48cbefae1dfb71190e2"), looks := true }, kinds := [], alts := [], laidByText := true, laidKinds := [.data, .data, .data, .data, .sentinel, .sentinel, .pinned], laidTests := true, laidLooks := .later }
def ExecRunsUptoCardSaid : Prop := Claim7.holds Tryz.pinned (.plain (OpenSpec.upto execRunsSpec)) execRunsUptoCard

/-- THE SECOND FORM's CARD OF 'gangsawlaw.DriverPicks'. -/
def driverPicksUptoCard : Claim7 := { stood := { row := driverPicksUptoRow, standIns := [], harness := (true, "9ab1331a6b96b3c3520091a15f421155077d78ec8e12f48cbefae1dfb71190e2"), looks := true }, kinds := [], alts := [], laidByText := true, laidKinds := [.data, .data, .data, .data, .sentinel, .sentinel, .pinned], laidTests := true, laidLooks := .later }
def DriverPicksUptoCardSaid : Prop := Claim7.holds Tryz.pinned (.plain (OpenSpec.upto driverPicksSpec)) driverPicksUptoCard
end Rows
end Go.Proofs.YtffljdmmambdjacGreatDoor
