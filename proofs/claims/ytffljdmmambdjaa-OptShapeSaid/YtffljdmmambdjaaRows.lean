/-
  No cell of these rows narrows 'for every input' (looked for: loops, veiled, ifaces, maps, wideKeys, modest, calm, conditions, laid).
  DERIVED. THE GIVEN ROWS OF THIS SEAT. 5 by the template 'for every input the law returns true; each argument reads behind the call as it read before'; 0 by the template 'total and deterministic' (their statements: YtffljdmmambdjaaTotals.lean).
  GIVEN WITH THE SEED: the statements are not yours to turn. If you find one false, say at which input.
  Laid BY PROGRAM, IN A SANDBOX (cutbox-rows.mjs): the forced cells as the released guide's own fill.sh prints them over the translation b5dec1d332ae43da… (all of the seat's roots in one cut). By AI agents, Wed Nov 11 2026. No macro, syntax, notation, axiom, sorry.
-/
import Derived.Test.YtffljdmmambdjaaChecked
import GoSem.Claim
import GoSem.ClaimJoined
import GoSem.ClaimMapViews
import Derived.JoinedTies
import Derived.KernelRfl
namespace Go.Proofs.Ytffljdmmambdjaa
/- THE CELL 'sum', in the pinned program and in every row, IS THE sha256 OF THE DUMP (.gsa) THAT YtffljdmmambdjaaProg.lean LOADS. Nothing in Lean hashes anything: it is a label: what it is worth is what the hold of that sum in a sandbox is worth. -/
noncomputable def Try.pinned : Pinned := { name := "ytffljdmmambdjaa", sum := "b5dec1d332ae43da10cd9e067fa6a573dd7b5a4768c723003152c8c1227bbe65", checked := Try.checked }
namespace Rows
def none {H : Type} : Left H := { results := [], args := [] }

/-- 'gangsawlaw.Names': WHATEVER THE INPUT: true; the input reads as it did. -/
def namesSpec : ChangeSpec := { name := "names", fn := fun _ => fun
  | [] => { results := [.lit (.bool true)], args := [] }
  | _ => none }
def namesRow : OpenClaim := { program := "ytffljdmmambdjaa", sum := "b5dec1d332ae43da10cd9e067fa6a573dd7b5a4768c723003152c8c1227bbe65", func := "gangsaw/gangsawlaw.Names", spec := "names", apart := false }
def NamesSaid : Prop := namesRow.holds Try.pinned (OpenSpec.ofChange namesSpec)

/-- ITS FALSE NEIGHBOUR: 'it returns false'. Refute it at one input. -/
def namesWrong : ChangeSpec := { name := "names", fn := fun _ => fun
  | [] => { results := [.lit (.bool false)], args := [] }
  | _ => none }
def NamesWrongFalsely : Prop := namesRow.holds Try.pinned (OpenSpec.ofChange namesWrong)

/-- 'gangsawlaw.PipeKeeps': WHATEVER THE INPUT: true; the input reads as it did. -/
def pipeKeepsSpec : ChangeSpec := { name := "pipeKeeps", fn := fun _ => fun
  | [d1, d2, d3] => { results := [.lit (.bool true)], args := [d1, d2, d3] }
  | _ => none }
def pipeKeepsRow : OpenClaim := { program := "ytffljdmmambdjaa", sum := "b5dec1d332ae43da10cd9e067fa6a573dd7b5a4768c723003152c8c1227bbe65", func := "gangsaw/gangsawlaw.PipeKeeps", spec := "pipeKeeps", apart := false }
def PipeKeepsSaid : Prop := pipeKeepsRow.holds Try.pinned (OpenSpec.ofChange pipeKeepsSpec)

/-- ITS FALSE NEIGHBOUR: 'it returns false'. Refute it at one input. -/
def pipeKeepsWrong : ChangeSpec := { name := "pipeKeeps", fn := fun _ => fun
  | [d1, d2, d3] => { results := [.lit (.bool false)], args := [d1, d2, d3] }
  | _ => none }
def PipeKeepsWrongFalsely : Prop := pipeKeepsRow.holds Try.pinned (OpenSpec.ofChange pipeKeepsWrong)

/-- 'gangsawlaw.PipeSays': WHATEVER THE INPUT: true; the input reads as it did. -/
def pipeSaysSpec : ChangeSpec := { name := "pipeSays", fn := fun _ => fun
  | [d1, d2, d3, d4] => { results := [.lit (.bool true)], args := [d1, d2, d3, d4] }
  | _ => none }
def pipeSaysRow : OpenClaim := { program := "ytffljdmmambdjaa", sum := "b5dec1d332ae43da10cd9e067fa6a573dd7b5a4768c723003152c8c1227bbe65", func := "gangsaw/gangsawlaw.PipeSays", spec := "pipeSays", apart := false }
def PipeSaysSaid : Prop := pipeSaysRow.holds Try.pinned (OpenSpec.ofChange pipeSaysSpec)

/-- ITS FALSE NEIGHBOUR: 'it returns false'. Refute it at one input. -/
def pipeSaysWrong : ChangeSpec := { name := "pipeSays", fn := fun _ => fun
  | [d1, d2, d3, d4] => { results := [.lit (.bool false)], args := [d1, d2, d3, d4] }
  | _ => none }
def PipeSaysWrongFalsely : Prop := pipeSaysRow.holds Try.pinned (OpenSpec.ofChange pipeSaysWrong)

/-- 'gangsawlaw.OptShape': WHATEVER THE INPUT: true; the input reads as it did. -/
def optShapeSpec : ChangeSpec := { name := "optShape", fn := fun _ => fun
  | [d1, d2] => { results := [.lit (.bool true)], args := [d1, d2] }
  | _ => none }
def optShapeRow : OpenClaim := { program := "ytffljdmmambdjaa", sum := "b5dec1d332ae43da10cd9e067fa6a573dd7b5a4768c723003152c8c1227bbe65", func := "gangsaw/gangsawlaw.OptShape", spec := "optShape", unfollowed := true, recurses := true, apart := false }
def OptShapeSaid : Prop := optShapeRow.holds Try.pinned (OpenSpec.ofChange optShapeSpec)

/-- ITS FALSE NEIGHBOUR: 'it returns false'. Refute it at one input. -/
def optShapeWrong : ChangeSpec := { name := "optShape", fn := fun _ => fun
  | [d1, d2] => { results := [.lit (.bool false)], args := [d1, d2] }
  | _ => none }
def OptShapeWrongFalsely : Prop := optShapeRow.holds Try.pinned (OpenSpec.ofChange optShapeWrong)

/-- 'gangsawlaw.LineParts': WHATEVER THE INPUT: true; the input reads as it did. -/
def linePartsSpec : ChangeSpec := { name := "lineParts", fn := fun _ => fun
  | [d1, d2, d3] => { results := [.lit (.bool true)], args := [d1, d2, d3] }
  | _ => none }
def linePartsRow : OpenClaim := { program := "ytffljdmmambdjaa", sum := "b5dec1d332ae43da10cd9e067fa6a573dd7b5a4768c723003152c8c1227bbe65", func := "gangsaw/gangsawlaw.LineParts", spec := "lineParts", inPlace := ["internal/bytealg.IndexByte", "internal/bytealg.Index"], named := ["internal/bytealg.MaxLen"], apart := false }
def LinePartsSaid : Prop := linePartsRow.holds Try.pinned (OpenSpec.ofChange linePartsSpec)

/-- ITS FALSE NEIGHBOUR: 'it returns false'. Refute it at one input. -/
def linePartsWrong : ChangeSpec := { name := "lineParts", fn := fun _ => fun
  | [d1, d2, d3] => { results := [.lit (.bool false)], args := [d1, d2, d3] }
  | _ => none }
def LinePartsWrongFalsely : Prop := linePartsRow.holds Try.pinned (OpenSpec.ofChange linePartsWrong)

/- THE SECOND FORM. 'bulk': how many values and letters a reading holds, each counted each time it is reached (what is shared counts as often as it is met; a slice's spare places count too). A statement '..UptoSaid' is the law's where the arguments, and the package variables that the reading takes, are together of bulk at most 1048576: NARROWER than '..Said'. Prove '..Said' where nothing that the law and all that it calls make is longer than what came in: it says more and counts as full. Else prove '..UptoSaid'. A law counts once. -/
mutual
def uptoBulk {H : Type} : DataW H → Nat
  | .lit (.string bytes) => bytes.length + 1
  | .lit _ => 1
  | .nil => 1
  | .ptr d => uptoBulk d + 1
  | .slice elems spare => uptoBulkAll elems + uptoBulkAll spare + 1
  | .agg parts => uptoBulkAll parts + 1
  | .iface _ d => uptoBulk d + 1
  | .map entries => uptoBulkEntries entries + 1
  | .held _ => 1
def uptoBulkAll {H : Type} : List (DataW H) → Nat
  | [] => 0
  | d :: r => uptoBulk d + uptoBulkAll r
def uptoBulkEntries {H : Type} : List (Lit × DataW H) → Nat
  | [] => 0
  | x :: r => uptoBulkEntry x + uptoBulkEntries r
def uptoBulkEntry {H : Type} : Lit × DataW H → Nat
  | (.string bytes, d) => bytes.length + uptoBulk d + 1
  | (_, d) => uptoBulk d + 1
 end
def uptoSmall : (H : Type) → List (DataW H) → Bool := fun _ ds => decide (uptoBulkAll ds ≤ 1048576)
def OpenSpec.upto (s : _root_.Go.ChangeSpec) : _root_.Go.OpenSpec := { _root_.Go.OpenSpec.ofChange s with cond := some uptoSmall }

/-- 'gangsawlaw.Names', WHERE WHAT IT READS IS OF BULK AT MOST 1048576: true; the input reads as it did. -/
def namesUptoRow : OpenClaim := { program := "ytffljdmmambdjaa", sum := "b5dec1d332ae43da10cd9e067fa6a573dd7b5a4768c723003152c8c1227bbe65", func := "gangsaw/gangsawlaw.Names", spec := "names", apart := false, narrowed := true }
def NamesUptoSaid : Prop := namesUptoRow.holds Try.pinned (OpenSpec.upto namesSpec)

/-- 'gangsawlaw.PipeKeeps', WHERE WHAT IT READS IS OF BULK AT MOST 1048576: true; the input reads as it did. -/
def pipeKeepsUptoRow : OpenClaim := { program := "ytffljdmmambdjaa", sum := "b5dec1d332ae43da10cd9e067fa6a573dd7b5a4768c723003152c8c1227bbe65", func := "gangsaw/gangsawlaw.PipeKeeps", spec := "pipeKeeps", apart := false, narrowed := true }
def PipeKeepsUptoSaid : Prop := pipeKeepsUptoRow.holds Try.pinned (OpenSpec.upto pipeKeepsSpec)

/-- 'gangsawlaw.PipeSays', WHERE WHAT IT READS IS OF BULK AT MOST 1048576: true; the input reads as it did. -/
def pipeSaysUptoRow : OpenClaim := { program := "ytffljdmmambdjaa", sum := "b5dec1d332ae43da10cd9e067fa6a573dd7b5a4768c723003152c8c1227bbe65", func := "gangsaw/gangsawlaw.PipeSays", spec := "pipeSays", apart := false, narrowed := true }
def PipeSaysUptoSaid : Prop := pipeSaysUptoRow.holds Try.pinned (OpenSpec.upto pipeSaysSpec)

/-- 'gangsawlaw.OptShape', WHERE WHAT IT READS IS OF BULK AT MOST 1048576: true; the input reads as it did. -/
def optShapeUptoRow : OpenClaim := { program := "ytffljdmmambdjaa", sum := "b5dec1d332ae43da10cd9e067fa6a573dd7b5a4768c723003152c8c1227bbe65", func := "gangsaw/gangsawlaw.OptShape", spec := "optShape", unfollowed := true, recurses := true, apart := false, narrowed := true }
def OptShapeUptoSaid : Prop := optShapeUptoRow.holds Try.pinned (OpenSpec.upto optShapeSpec)

/-- 'gangsawlaw.LineParts', WHERE WHAT IT READS IS OF BULK AT MOST 1048576: true; the input reads as it did. -/
def linePartsUptoRow : OpenClaim := { program := "ytffljdmmambdjaa", sum := "b5dec1d332ae43da10cd9e067fa6a573dd7b5a4768c723003152c8c1227bbe65", func := "gangsaw/gangsawlaw.LineParts", spec := "lineParts", inPlace := ["internal/bytealg.IndexByte", "internal/bytealg.Index"], named := ["internal/bytealg.MaxLen"], apart := false, narrowed := true }
def LinePartsUptoSaid : Prop := linePartsUptoRow.holds Try.pinned (OpenSpec.upto linePartsSpec)

end Rows
end Go.Proofs.Ytffljdmmambdjaa
