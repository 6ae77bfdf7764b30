/-
  DERIVED. GIVEN WITH THE SEED: THE CARDS: each row of YtffljdmmambdjabGreatDoorRows.lean that lists a variable, with what it lists TIED to the program's text (the seventh form; the later family's looks); each row that meets fmt, with fmt's text TOLD by the authors' own Lean function (tested against real Go, not proved from fmt's source: count such statements apart). THE CARD IS WHAT COUNTS. Prove the row's statement (the work); the ties are given (YtffljdmmambdjabGreatDoorTie.lean); close each card by the builder's one call (the guide's Derived/Test/ToyasCard.lean, 'card_holds'). Laid BY PROGRAM, IN A SANDBOX (cutbox-door.mjs). By AI agents, Wed Nov 11 2026. No macro, syntax, notation, axiom, sorry.
-/
import Derived.Test.YtffljdmmambdjabGreatDoorRows
import GoSem.ClaimSeven
namespace Go.Proofs.YtffljdmmambdjabGreatDoor
namespace Rows

/-- THE TIED CARD OF 'gangsawlaw.DriverSays'. -/
def driverSaysCard : Claim7 := { stood := { row := driverSaysRow, standIns := [], harness := (true, "b426d36aee87a7ddd55f45017cccf55016e8ded7f58b3cb4097dc16445e1fe35"), looks := true }, kinds := [], alts := [], laidByText := true, laidKinds := [.data, .data, .data, .data, .sentinel, .sentinel, .pinned], laidTests := true, laidLooks := .later }
def DriverSaysCardSaid : Prop := Claim7.holds Tryz.pinned (.plain (OpenSpec.ofChange driverSaysSpec)) driverSaysCard

/-- THE TIED CARD OF 'gangsawlaw.CommandSays'. -/
def commandSaysCard : Claim7 := { stood := { row := commandSaysRow, standIns := [], harness := (true, "b426d36aee87a7ddd55f45017cccf55016e8ded7f58b3cb4097dc16445e1fe35"), looks := true }, kinds := [], alts := [], laidByText := true, laidKinds := [.data, .data, .data, .data, .pinned], laidTests := true, laidLooks := .later }
def CommandSaysCardSaid : Prop := Claim7.holds Tryz.pinned (.plain (OpenSpec.ofChange commandSaysSpec)) commandSaysCard

/-- THE TIED CARD OF 'gangsawlaw.ScriptSays'. -/
def scriptSaysCard : Claim7 := { stood := { row := scriptSaysRow, standIns := [], harness := (true, "b426d36aee87a7ddd55f45017cccf55016e8ded7f58b3cb4097dc16445e1fe35"), looks := true }, kinds := [], alts := [], laidByText := true, laidKinds := [.data, .data, .data, .data, .sentinel, .sentinel, .listed, .data, .pinned], laidTests := true, laidLooks := .later }
def ScriptSaysCardSaid : Prop := Claim7.holds Tryz.pinned (.plain (OpenSpec.ofChange scriptSaysSpec)) scriptSaysCard

/-- THE TIED CARD OF 'gangsawlaw.ShellParts'. -/
def shellPartsCard : Claim7 := { stood := { row := shellPartsRow, standIns := [], harness := (true, "b426d36aee87a7ddd55f45017cccf55016e8ded7f58b3cb4097dc16445e1fe35"), looks := true }, kinds := [], alts := [], laidByText := true, laidKinds := [.data, .data, .data, .data, .pinned], laidTests := true, laidLooks := .later }
def ShellPartsCardSaid : Prop := Claim7.holds Tryz.pinned (.plain (OpenSpec.ofChange shellPartsSpec)) shellPartsCard

/-- THE TIED CARD OF 'gangsawlaw.ShellFiles'. -/
def shellFilesCard : Claim7 := { stood := { row := shellFilesRow, standIns := [], harness := (true, "b426d36aee87a7ddd55f45017cccf55016e8ded7f58b3cb4097dc16445e1fe35"), looks := true }, kinds := [], alts := [], laidByText := true, laidKinds := [.data, .data, .data, .data, .pinned], laidTests := true, laidLooks := .later }
def ShellFilesCardSaid : Prop := Claim7.holds Tryz.pinned (.plain (OpenSpec.ofChange shellFilesSpec)) shellFilesCard

/-- THE TIED CARD OF 'gangsawlaw.JoinNest'. -/
def joinNestCard : Claim7 := { stood := { row := joinNestRow, standIns := [], harness := (true, "b426d36aee87a7ddd55f45017cccf55016e8ded7f58b3cb4097dc16445e1fe35"), looks := true }, kinds := [], alts := [], laidByText := true, laidKinds := [.data, .data, .data, .data, .sentinel, .sentinel, .pinned], laidTests := true, laidLooks := .later }
def JoinNestCardSaid : Prop := Claim7.holds Tryz.pinned (.plain (OpenSpec.ofChange joinNestSpec)) joinNestCard

/-- THE TIED CARD OF 'gangsawlaw.JoinWhole'. -/
def joinWholeCard : Claim7 := { stood := { row := joinWholeRow, standIns := [], harness := (true, "b426d36aee87a7ddd55f45017cccf55016e8ded7f58b3cb4097dc16445e1fe35"), looks := true }, kinds := [], alts := [], laidByText := true, laidKinds := [.data, .data, .data, .data, .sentinel, .sentinel, .pinned], laidTests := true, laidLooks := .later }
def JoinWholeCardSaid : Prop := Claim7.holds Tryz.pinned (.plain (OpenSpec.ofChange joinWholeSpec)) joinWholeCard

/-- THE TIED CARD OF 'gangsawlaw.GraphFiles'. -/
def graphFilesCard : Claim7 := { stood := { row := graphFilesRow, standIns := [], harness := (true, "b426d36aee87a7ddd55f45017cccf55016e8ded7f58b3cb4097dc16445e1fe35"), looks := true }, kinds := [], alts := [], laidByText := true, laidKinds := [.data, .data, .data, .data, .sentinel, .sentinel, .pinned], laidTests := true, laidLooks := .later }
def GraphFilesCardSaid : Prop := Claim7.holds Tryz.pinned (.plain (OpenSpec.ofChange graphFilesSpec)) graphFilesCard

/-- THE TIED CARD OF 'gangsawlaw.JoinSays'. -/
def joinSaysCard : Claim7 := { stood := { row := joinSaysRow, standIns := [], harness := (true, "b426d36aee87a7ddd55f45017cccf55016e8ded7f58b3cb4097dc16445e1fe35"), looks := true }, kinds := [], alts := [], laidByText := true, laidKinds := [.data, .data, .data, .data, .sentinel, .sentinel, .pinned], laidTests := true, laidLooks := .later }
def JoinSaysCardSaid : Prop := Claim7.holds Tryz.pinned (.plain (OpenSpec.ofChange joinSaysSpec)) joinSaysCard

/-- THE TIED CARD OF 'gangsawlaw.OptSame'. -/
def optSameCard : Claim7 := { stood := { row := optSameRow, standIns := [], harness := (true, "b426d36aee87a7ddd55f45017cccf55016e8ded7f58b3cb4097dc16445e1fe35"), looks := true }, kinds := [], alts := [], laidByText := true, laidKinds := [.data, .data, .data, .data, .sentinel, .sentinel, .pinned], laidTests := true, laidLooks := .later }
def OptSameCardSaid : Prop := Claim7.holds Tryz.pinned (.plain (OpenSpec.ofChange optSameSpec)) optSameCard

/-- THE TIED CARD OF 'gangsawlaw.GraphSays'. -/
def graphSaysCard : Claim7 := { stood := { row := graphSaysRow, standIns := [], harness := (true, "b426d36aee87a7ddd55f45017cccf55016e8ded7f58b3cb4097dc16445e1fe35"), looks := true }, kinds := [], alts := [], laidByText := true, laidKinds := [.data, .data, .data, .data, .sentinel, .sentinel, .pinned], laidTests := true, laidLooks := .later }
def GraphSaysCardSaid : Prop := Claim7.holds Tryz.pinned (.plain (OpenSpec.ofChange graphSaysSpec)) graphSaysCard

/-- THE SECOND FORM's CARD OF 'gangsawlaw.DriverSays'. -/
def driverSaysUptoCard : Claim7 := { stood := { row := driverSaysUptoRow, standIns := [], harness := (true, "b426d36aee87a7ddd55f45017cccf55016e8ded7f58b3cb4097dc16445e1fe35"), looks := true }, kinds := [], alts := [], laidByText := true, laidKinds := [.data, .data, .data, .data, .sentinel, .sentinel, .pinned], laidTests := true, laidLooks := .later }
def DriverSaysUptoCardSaid : Prop := Claim7.holds Tryz.pinned (.plain (OpenSpec.upto driverSaysSpec)) driverSaysUptoCard

/-- THE SECOND FORM's CARD OF 'gangsawlaw.CommandSays'. -/
def commandSaysUptoCard : Claim7 := { stood := { row := commandSaysUptoRow, standIns := [], harness := (true, "b426d36aee87a7ddd55f45017cccf55016e8ded7f58b3cb4097dc16445e1fe35"), looks := true }, kinds := [], alts := [], laidByText := true, laidKinds := [.data, .data, .data, .data, .pinned], laidTests := true, laidLooks := .later }
def CommandSaysUptoCardSaid : Prop := Claim7.holds Tryz.pinned (.plain (OpenSpec.upto commandSaysSpec)) commandSaysUptoCard

/-- THE SECOND FORM's CARD OF 'gangsawlaw.ScriptSays'. -/
def scriptSaysUptoCard : Claim7 := { stood := { row := scriptSaysUptoRow, standIns := [], harness := (true, "b426d36aee87a7ddd55f45017cccf55016e8ded7f58b3cb4097dc16445e1fe35"), looks := true }, kinds := [], alts := [], laidByText := true, laidKinds := [.data, .data, .data, .data, .sentinel, .sentinel, .listed, .data, .pinned], laidTests := true, laidLooks := .later }
def ScriptSaysUptoCardSaid : Prop := Claim7.holds Tryz.pinned (.plain (OpenSpec.upto scriptSaysSpec)) scriptSaysUptoCard

/-- THE SECOND FORM's CARD OF 'gangsawlaw.ShellParts'. -/
def shellPartsUptoCard : Claim7 := { stood := { row := shellPartsUptoRow, standIns := [], harness := (true, "b426d36aee87a7ddd55f45017cccf55016e8ded7f58b3cb4097dc16445e1fe35"), looks := true }, kinds := [], alts := [], laidByText := true, laidKinds := [.data, .data, .data, .data, .pinned], laidTests := true, laidLooks := .later }
def ShellPartsUptoCardSaid : Prop := Claim7.holds Tryz.pinned (.plain (OpenSpec.upto shellPartsSpec)) shellPartsUptoCard

/-- THE SECOND FORM's CARD OF 'gangsawlaw.ShellFiles'. -/
def shellFilesUptoCard : Claim7 := { stood := { row := shellFilesUptoRow, standIns := [], harness := (true, "b426d36aee87a7ddd55f45017cccf55016e8ded7f58b3cb4097dc16445e1fe35"), looks := true }, kinds := [], alts := [], laidByText := true, laidKinds := [.data, .data, .data, .data, .pinned], laidTests := true, laidLooks := .later }
def ShellFilesUptoCardSaid : Prop := Claim7.holds Tryz.pinned (.plain (OpenSpec.upto shellFilesSpec)) shellFilesUptoCard

/-- THE SECOND FORM's CARD OF 'gangsawlaw.JoinNest'. -/
def joinNestUptoCard : Claim7 := { stood := { row := joinNestUptoRow, standIns := [], harness := (true, "b426d36aee87a7ddd55f45017cccf55016e8ded7f58b3cb4097dc16445e1fe35"), looks := true }, kinds := [], alts := [], laidByText := true, laidKinds := [.data, .data, .data, .data, .sentinel, .sentinel, .pinned], laidTests := true, laidLooks := .later }
def JoinNestUptoCardSaid : Prop := Claim7.holds Tryz.pinned (.plain (OpenSpec.upto joinNestSpec)) joinNestUptoCard

/-- THE SECOND FORM's CARD OF 'gangsawlaw.JoinWhole'. -/
def joinWholeUptoCard : Claim7 := { stood := { row := joinWholeUptoRow, standIns := [], harness := (true, "b426d36aee87a7ddd55f45017cccf55016e8ded7f58b3cb4097dc16445e1fe35"), looks := true }, kinds := [], alts := [], laidByText := true, laidKinds := [.data, .data, .data, .data, .sentinel, .sentinel, .pinned], laidTests := true, laidLooks := .later }
def JoinWholeUptoCardSaid : Prop := Claim7.holds Tryz.pinned (.plain (OpenSpec.upto joinWholeSpec)) joinWholeUptoCard

/-- THE SECOND FORM's CARD OF 'gangsawlaw.GraphFiles'. -/
def graphFilesUptoCard : Claim7 := { stood := { row := graphFilesUptoRow, standIns := [], harness := (true, "b426d36aee87a7ddd55f45017cccf55016e8ded7f58b3cb4097dc16445e1fe35"), looks := true }, kinds := [], alts := [], laidByText := true, laidKinds := [.data, .data, .data, .data, .sentinel, .sentinel, .pinned], laidTests := true, laidLooks := .later }
def GraphFilesUptoCardSaid : Prop := Claim7.holds Tryz.pinned (.plain (OpenSpec.upto graphFilesSpec)) graphFilesUptoCard

/-- THE SECOND FORM's CARD OF 'gangsawlaw.JoinSays'. -/
def joinSaysUptoCard : Claim7 := { stood := { row := joinSaysUptoRow, standIns := [], harness := (true, "b426d36aee87a7ddd55f45017cccf55016e8ded7f58b3cb4097dc16445e1fe35"), looks := true }, kinds := [], alts := [], laidByText := true, laidKinds := [.data, .data, .data, .data, .sentinel, .sentinel, .pinned], laidTests := true, laidLooks := .later }
def JoinSaysUptoCardSaid : Prop := Claim7.holds Tryz.pinned (.plain (OpenSpec.upto joinSaysSpec)) joinSaysUptoCard

/-- THE SECOND FORM's CARD OF 'gangsawlaw.OptSame'. -/
def optSameUptoCard : Claim7 := { stood := { row := optSameUptoRow, standIns := [], harness := (true, "b426d36aee87a7ddd55f45017cccf55016e8ded7f58b3cb4097dc16445e1fe35"), looks := true }, kinds := [], alts := [], laidByText := true, laidKinds := [.data, .data, .data, .data, .sentinel, .sentinel, .pinned], laidTests := true, laidLooks := .later }
def OptSameUptoCardSaid : Prop := Claim7.holds Tryz.pinned (.plain (OpenSpec.upto optSameSpec)) optSameUptoCard

/-- THE SECOND FORM's CARD OF 'gangsawlaw.GraphSays'. -/
def graphSaysUptoCard : Claim7 := { stood := { row := graphSaysUptoRow, standIns := [], harness := (true, "b426d36aee87a7ddd55f45017cccf55016e8ded7f58b3cb4097dc16445e1fe35"), looks := true }, kinds := [], alts := [], laidByText := true, laidKinds := [.data, .data, .data, .data, .sentinel, .sentinel, .pinned], laidTests := true, laidLooks := .later }
def GraphSaysUptoCardSaid : Prop := Claim7.holds Tryz.pinned (.plain (OpenSpec.upto graphSaysSpec)) graphSaysUptoCard
end Rows
end Go.Proofs.YtffljdmmambdjabGreatDoor
