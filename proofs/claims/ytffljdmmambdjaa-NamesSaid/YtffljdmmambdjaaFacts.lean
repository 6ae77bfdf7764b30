/- Facts on the program: its types, fields and functions. No conditions. -/
import Derived.Test.YtffljdmmambdjaaBase
import Derived.Test.YtffljdmmambdjaaProg
set_option linter.unusedVariables false
set_option linter.unusedSimpArgs false
namespace Go.Proofs.Ytffljdmmambdjaa
open Gw Go.Proofs
theorem call10 : callable Try.prog 10 = true := by kernel_rfl
theorem call12 : callable Try.prog 12 = true := by kernel_rfl
theorem call13 : callable Try.prog 13 = true := by kernel_rfl
theorem call14 : callable Try.prog 14 = true := by kernel_rfl
theorem call15 : callable Try.prog 15 = true := by kernel_rfl
theorem call16 : callable Try.prog 16 = true := by kernel_rfl
theorem call17 : callable Try.prog 17 = true := by kernel_rfl
theorem call18 : callable Try.prog 18 = true := by kernel_rfl
theorem call19 : callable Try.prog 19 = true := by kernel_rfl
theorem call20 : callable Try.prog 20 = true := by kernel_rfl
theorem call21 : callable Try.prog 21 = true := by kernel_rfl
theorem call22 : callable Try.prog 22 = true := by kernel_rfl
theorem call30 : callable Try.prog 30 = true := by kernel_rfl
theorem call31 : callable Try.prog 31 = true := by kernel_rfl
theorem call32 : callable Try.prog 32 = true := by kernel_rfl
theorem call8 : callable Try.prog 8 = true := by kernel_rfl
theorem call9 : callable Try.prog 9 = true := by kernel_rfl
theorem fld29_0 : fldOf Try.prog 29 0 = some 0 := by kernel_rfl
theorem fld29_1 : fldOf Try.prog 29 1 = some 1 := by kernel_rfl
theorem fld29_2 : fldOf Try.prog 29 2 = some 2 := by kernel_rfl
theorem fld29_3 : fldOf Try.prog 29 3 = some 3 := by kernel_rfl
theorem ty22 : tyOf Try.prog 22 = some (.int .i64 0, 1, 8, false) := by kernel_rfl
theorem ty27 : tyOf Try.prog 27 = some (.slice none 0 0, 1, 24, false) := by kernel_rfl
theorem ty29 : tyOf Try.prog 29 = some (.agg #[.slice none 0 0, .int .i64 0, .bool false, .bool false], 4, 40, true) := by kernel_rfl
theorem ty3 : tyOf Try.prog 3 = some (.int .i64 0, 1, 8, false) := by kernel_rfl
theorem ty4 : tyOf Try.prog 4 = some (.bool false, 1, 1, false) := by kernel_rfl
theorem ty5 : tyOf Try.prog 5 = some (.int .u8 0, 1, 1, false) := by kernel_rfl
theorem ty9 : tyOf Try.prog 9 = some (str [], 1, 16, false) := by kernel_rfl
theorem mixed : Try.prog.follows .mixedOrders = true := by kernel_rfl
end Go.Proofs.Ytffljdmmambdjaa
