/-
  DERIVED. GIVEN WITH THE SEED: THE CARDS: each row of YtffljdmmambdjaaDoorRows.lean that lists a variable, with what it lists TIED to the program's text (the seventh form; the later family's looks); each row that meets fmt, with fmt's text TOLD by the authors' own Lean function (tested against real Go, not proved from fmt's source: count such statements apart). THE CARD IS WHAT COUNTS. Prove the row's statement (the work); the ties are given (YtffljdmmambdjaaDoorTie.lean); close each card by the builder's one call (the guide's Derived/Test/ToyasCard.lean, 'card_holds'). Laid BY PROGRAM, IN A SANDBOX (cutbox-door.mjs). By AI agents, Wed Nov 11 2026. No macro, syntax, notation, axiom, sorry.
-/
import Derived.Test.YtffljdmmambdjaaDoorRows
import GoSem.ClaimSeven
namespace Go.Proofs.YtffljdmmambdjaaDoor
namespace Rows

/-- THE TIED CARD OF 'gangsawlaw.OptSays'. -/
def optSaysCard : Claim7 := { stood := { row := optSaysRow, standIns := [], harness := (true, "e2661f9fa138539de65c9de8d795f00442d421449050d11dade4e2e089fc6299"), looks := true }, kinds := [], alts := [], laidByText := true, laidKinds := [.data, .pinned], laidTests := true, laidLooks := .later }
def OptSaysCardSaid : Prop := Claim7.holds Tryd.pinned (.plain (OpenSpec.ofChange optSaysSpec)) optSaysCard

/-- THE TIED CARD OF 'gangsawlaw.LineSays'. -/
def lineSaysCard : Claim7 := { stood := { row := lineSaysRow, standIns := [], harness := (true, "e2661f9fa138539de65c9de8d795f00442d421449050d11dade4e2e089fc6299"), looks := true }, kinds := [], alts := [], laidByText := true, laidKinds := [.data, .pinned], laidTests := true, laidLooks := .later }
def LineSaysCardSaid : Prop := Claim7.holds Tryd.pinned (.plain (OpenSpec.ofChange lineSaysSpec)) lineSaysCard

/-- THE TIED CARD OF 'gangsawlaw.ScriptParts'. -/
def scriptPartsCard : Claim7 := { stood := { row := scriptPartsRow, standIns := [], harness := (true, "e2661f9fa138539de65c9de8d795f00442d421449050d11dade4e2e089fc6299"), looks := true }, kinds := [], alts := [], laidByText := true, laidKinds := [.data, .data, .data, .data, .sentinel, .sentinel, .pinned], laidTests := true, laidLooks := .later }
def ScriptPartsCardSaid : Prop := Claim7.holds Tryd.pinned (.plain (OpenSpec.ofChange scriptPartsSpec)) scriptPartsCard

/-- THE TIED CARD OF 'gangsawlaw.ScriptBack'. -/
def scriptBackCard : Claim7 := { stood := { row := scriptBackRow, standIns := [], harness := (true, "e2661f9fa138539de65c9de8d795f00442d421449050d11dade4e2e089fc6299"), looks := true }, kinds := [], alts := [], laidByText := true, laidKinds := [.data, .data, .data, .data, .sentinel, .sentinel, .pinned], laidTests := true, laidLooks := .later }
def ScriptBackCardSaid : Prop := Claim7.holds Tryd.pinned (.plain (OpenSpec.ofChange scriptBackSpec)) scriptBackCard

/-- THE TIED CARD OF 'gangsawlaw.CommandParts'. -/
def commandPartsCard : Claim7 := { stood := { row := commandPartsRow, standIns := [], harness := (true, "e2661f9fa138539de65c9de8d795f00442d421449050d11dade4e2e089fc6299"), looks := true }, kinds := [], alts := [], laidByText := true, laidKinds := [.data, .data, .data, .data, .pinned], laidTests := true, laidLooks := .later }
def CommandPartsCardSaid : Prop := Claim7.holds Tryd.pinned (.plain (OpenSpec.ofChange commandPartsSpec)) commandPartsCard

/-- THE TIED CARD OF 'gangsawlaw.CommandEach'. -/
def commandEachCard : Claim7 := { stood := { row := commandEachRow, standIns := [], harness := (true, "e2661f9fa138539de65c9de8d795f00442d421449050d11dade4e2e089fc6299"), looks := true }, kinds := [], alts := [], laidByText := true, laidKinds := [.data, .data, .data, .data, .pinned], laidTests := true, laidLooks := .later }
def CommandEachCardSaid : Prop := Claim7.holds Tryd.pinned (.plain (OpenSpec.ofChange commandEachSpec)) commandEachCard

/-- THE SECOND FORM's CARD OF 'gangsawlaw.OptSays'. -/
def optSaysUptoCard : Claim7 := { stood := { row := optSaysUptoRow, standIns := [], harness := (true, "e2661f9fa138539de65c9de8d795f00442d421449050d11dade4e2e089fc6299"), looks := true }, kinds := [], alts := [], laidByText := true, laidKinds := [.data, .pinned], laidTests := true, laidLooks := .later }
def OptSaysUptoCardSaid : Prop := Claim7.holds Tryd.pinned (.plain (OpenSpec.upto optSaysSpec)) optSaysUptoCard

/-- THE SECOND FORM's CARD OF 'gangsawlaw.LineSays'. -/
def lineSaysUptoCard : Claim7 := { stood := { row := lineSaysUptoRow, standIns := [], harness := (true, "e2661f9fa138539de65c9de8d795f00442d421449050d11dade4e2e089fc6299"), looks := true }, kinds := [], alts := [], laidByText := true, laidKinds := [.data, .pinned], laidTests := true, laidLooks := .later }
def LineSaysUptoCardSaid : Prop := Claim7.holds Tryd.pinned (.plain (OpenSpec.upto lineSaysSpec)) lineSaysUptoCard

/-- THE SECOND FORM's CARD OF 'gangsawlaw.ScriptParts'. -/
def scriptPartsUptoCard : Claim7 := { stood := { row := scriptPartsUptoRow, standIns := [], harness := (true, "e2661f9fa138539de65c9de8d795f00442d421449050d11dade4e2e089fc6299"), looks := true }, kinds := [], alts := [], laidByText := true, laidKinds := [.data, .data, .data, .data, .sentinel, .sentinel, .pinned], laidTests := true, laidLooks := .later }
def ScriptPartsUptoCardSaid : Prop := Claim7.holds Tryd.pinned (.plain (OpenSpec.upto scriptPartsSpec)) scriptPartsUptoCard

/-- THE SECOND FORM's CARD OF 'gangsawlaw.ScriptBack'. -/
def scriptBackUptoCard : Claim7 := { stood := { row := scriptBackUptoRow, standIns := [], harness := (true, "e2661f9fa138539de65c9de8d795f00442d421449050d11dade4e2e089fc6299"), looks := true }, kinds := [], alts := [], laidByText := true, laidKinds := [.data, .data, .data, .data, .sentinel, .sentinel, .pinned], laidTests := true, laidLooks := .later }
def ScriptBackUptoCardSaid : Prop := Claim7.holds Tryd.pinned (.plain (OpenSpec.upto scriptBackSpec)) scriptBackUptoCard

/-- THE SECOND FORM's CARD OF 'gangsawlaw.CommandParts'. -/
def commandPartsUptoCard : Claim7 := { stood := { row := commandPartsUptoRow, standIns := [], harness := (true, "e2661f9fa138539de65c9de8d795f00442d421449050d11dade4e2e089fc6299"), looks := true }, kinds := [], alts := [], laidByText := true, laidKinds := [.data, .data, .data, .data, .pinned], laidTests := true, laidLooks := .later }
def CommandPartsUptoCardSaid : Prop := Claim7.holds Tryd.pinned (.plain (OpenSpec.upto commandPartsSpec)) commandPartsUptoCard

/-- THE SECOND FORM's CARD OF 'gangsawlaw.CommandEach'. -/
def commandEachUptoCard : Claim7 := { stood := { row := commandEachUptoRow, standIns := [], harness := (true, "e2661f9fa138539de65c9de8d795f00442d421449050d11dade4e2e089fc6299"), looks := true }, kinds := [], alts := [], laidByText := true, laidKinds := [.data, .data, .data, .data, .pinned], laidTests := true, laidLooks := .later }
def CommandEachUptoCardSaid : Prop := Claim7.holds Tryd.pinned (.plain (OpenSpec.upto commandEachSpec)) commandEachUptoCard
end Rows
end Go.Proofs.YtffljdmmambdjaaDoor
