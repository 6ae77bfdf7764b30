/- What functions of the program come to (L10): in every world; the conditions stand in each theorem. -/
import Derived.Test.YtffljdmmambdjaaL9
set_option linter.unusedVariables false
set_option linter.unusedSectionVars false
open Go Go.RowKit Go.Proofs Gw Gp
namespace Gv
variable [Glob]
/-! lines of a script, handed in -/
theorem opn_cmd : Opn Try.prog 56 cmdV (fun _ => True) := ⟨fun en w fuel cs d p h hw => by
  have hl : cs.length = 3 := (opn_width Try.underlying56 h).trans (by kernel_rfl)
  obtain ⟨k, _, f1⟩ := opn_field 0 0 1 (T := 3) Try.underlying56 rfl rfl rfl (by kernel_rfl) (opn_int Try.underlying3) h hw
  obtain ⟨s, _, f2⟩ := opn_field 1 1 1 (T := 9) Try.underlying56 rfl rfl rfl (by kernel_rfl) (opn_str Try.underlying9) h hw
  obtain ⟨n, _, f3⟩ := opn_field 2 2 1 (T := 3) Try.underlying56 rfl rfl rfl (by kernel_rfl) (opn_int Try.underlying3) h hw
  have := Fit.cons 0 1 f1 rfl (Fit.cons 1 2 f2 rfl (Fit.cons 2 3 f3 rfl (Fit.last 3 hl)))
  rw [List.drop_zero] at this
  exact ⟨⟨k, s, n⟩, trivial, this⟩⟩
def lineCells (l : LineS) : List V := [.sl strV l.frm, .sl cmdV l.cmds, .str l.to]
theorem opn_line : Opn Try.prog 48 (fun l => .agg (lineCells l)) (fun _ => True) := ⟨fun en w fuel cs d p h hw => by
  have hl : cs.length = 3 := (opn_width Try.underlying48 h).trans (by kernel_rfl)
  obtain ⟨k, _, f1⟩ := opn_field 0 0 1 (T := 45) Try.underlying48 rfl rfl rfl (by kernel_rfl) (opn_slice (k := 1) Try.underlying45 (by kernel_rfl) (by omega) (opn_str Try.underlying9)) h hw
  obtain ⟨s, _, f2⟩ := opn_field 1 1 1 (T := 46) Try.underlying48 rfl rfl rfl (by kernel_rfl) (opn_slice (k := 3) Try.underlying46 (by kernel_rfl) (by omega) opn_cmd) h hw
  obtain ⟨n, _, f3⟩ := opn_field 2 2 1 (T := 9) Try.underlying48 rfl rfl rfl (by kernel_rfl) (opn_str Try.underlying9) h hw
  have := Fit.cons 0 1 f1 rfl (Fit.cons 1 2 f2 rfl (Fit.cons 2 3 f3 rfl (Fit.last 3 hl)))
  rw [List.drop_zero] at this
  exact ⟨⟨k, s, n⟩, trivial, this⟩⟩
/-- OptShape, by its lines. -/
def shape_T : Spec := fun args K => ∃ (l : LineS) (w : Int), args = [.agg (lineCells l), .int .i64 w] ∧ K (.bool true)
theorem shapeT_ok : Pure Try.prog 6 shape_T := by
  intro w m args us k a1 a2 a3 a4
  obtain ⟨l, n, rfl, a5⟩ := a4
  exact shape_ok w m _ us k a1 a2 a3 ⟨l.frm, l.cmds, l.to, n, rfl, a5⟩
end Gv
