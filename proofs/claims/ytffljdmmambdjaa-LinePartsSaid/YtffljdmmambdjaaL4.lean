/- What functions of the program come to (L4): in every world; the conditions stand in each theorem. -/
import Derived.Test.YtffljdmmambdjaaL3
set_option linter.unusedVariables false
set_option linter.unusedSectionVars false
set_option linter.unusedSimpArgs false
open Go Go.Proofs Gw
namespace Gv
variable [Glob]
noncomputable def lib4 : List (Nat × Spec) := [(14, check_S), (9, new_S), (12, write_S), (13, read_S), (17, close_S), (20, over_S), (15, equalB_S), (16, concatB_S), (11, at_S)]
theorem lib4_ok : LibOK Try.prog lib4 := .cons check_ca check_ok (.cons new_ca new_ok (.cons write_ca write_ok (.cons read_ca read_ok (.cons close_ca close_ok (.cons over_ca over_ok (.cons equalB_ca equalB_ok (.cons concatB_ca concatB_ok (.cons at_ca at_ok .nil))))))))
theorem E4ok : EnvOK ⟨Try.prog, tys, lib4, [], [], []⟩ := env_ok mixed0 tys0 lib4_ok .nil .nil rfl
theorem w1 : pipeNew 3 = (⟨[], 3, false, false⟩, 0) := by simp [pipeNew]
theorem w2 : pipeWrite ⟨[], 3, false, false⟩ [97, 98, 99, 100] = (⟨[97, 98, 99], 3, false, false⟩, 3, 0) := by simp [pipeWrite, pipeCheck, pipeTake] <;> decide
theorem w3 : pipeRead ⟨[97, 98, 99], 3, false, false⟩ 2 = (⟨[99], 3, false, false⟩, [97, 98], 0) := by simp [pipeRead, pipeCheck] <;> decide
theorem w4 : pipeClose ⟨[99], 3, false, false⟩ = (⟨[99], 3, true, false⟩, 0) := by simp [pipeClose, pipeCheck]
theorem w5 : pipeWrite ⟨[99], 3, true, false⟩ [] = (noPipe, 0, 7) := by simp [pipeWrite, pipeCheck, pipeTake] <;> decide
theorem piped_ca : callable Try.prog 10 = true := by kernel_rfl
def piped_S : Spec := fun args K => args = [] ∧ K (.bool true)
theorem piped_ok : Pure Try.prog 10 piped_S := by
  refine pure_by E4ok 1 (fi := {fn := Try.f10, hooks := [], draws := []}) ⟨Try.func10, by kernel_rfl, by kernel_rfl⟩ ?_
  rintro _ K ⟨rfl, hK⟩
  replace hK : ∀ r, r = .bool true → K r := fun r h => h ▸ hK
  refine ⟨3, rfl, ?_⟩
  rw [w1]
  repeat' (first | exact True.intro | refine ⟨_, LeL.refl _, ?_⟩ | refine ⟨_, _, _, LeL.refl _, ?_⟩ | (refine fun (b : Bool) hb => ?_; cases b <;> (first | exact absurd hb (by decide) | exact Bool.noConfusion (show true = false from hb) | exact Bool.noConfusion (show false = true from hb) | skip)) | (refine fun (hl : _ ≤ MAXL) => ?_) | refine And.intro (a := I64 _) ?_ ?_ | refine And.intro (a := _ ≤ 140737488355328) ?_ ?_ | refine ⟨_, ⟨rfl, rfl⟩, ?_⟩ | refine ⟨_, And.intro (a := I64 _) ?_ ⟨rfl, rfl⟩, ?_⟩ | refine ⟨_, _, ⟨rfl, rfl⟩, ?_⟩ | refine ⟨_, (fun _ => ⟨rfl, rfl⟩), ?_⟩ | refine And.intro (a := chkPend _ _ _ _ _ _) ?_ ?_ | refine And.intro (a := chkPast _ _ _ _ _ _ _ _) ?_ ?_ | refine ⟨⟨rfl, rfl⟩, ?_⟩ | refine ⟨True.intro, ?_⟩ | refine ⟨_, ⟨_, rfl, ?_, rfl, rfl, rfl⟩, ?_⟩ | refine ⟨_, rfl, ?_, rfl, ?_⟩ | refine ⟨_, (fun _ => rfl), rfl, ?_⟩ | refine ⟨(fun _ => rfl), ?_⟩ | refine ⟨rfl, ?_⟩ | fail)
  refine ⟨[97, 98, 99, 100], rfl, by decide, ?_⟩
  refine ⟨⟨[], 3, false, false⟩, [97, 98, 99, 100], rfl, by decide, ?_⟩
  rw [w2]
  refine ⟨⟨[97, 98, 99], 3, false, false⟩, 2, rfl, ?_⟩
  rw [w3]
  refine ⟨⟨[99], 3, false, false⟩, rfl, ?_⟩
  rw [w4]
  refine ⟨UInt8, byteV, ?_⟩
  refine ⟨⟨[99], 3, true, false⟩, [], rfl, by decide, ?_⟩
  rw [w5]
  repeat' (first | exact True.intro | refine ⟨_, LeL.refl _, ?_⟩ | refine ⟨_, _, _, LeL.refl _, ?_⟩ | (refine fun (b : Bool) hb => ?_; cases b <;> (first | exact absurd hb (by decide) | exact Bool.noConfusion (show true = false from hb) | exact Bool.noConfusion (show false = true from hb) | skip)) | (refine fun (hl : _ ≤ MAXL) => ?_) | refine And.intro (a := I64 _) ?_ ?_ | refine And.intro (a := _ ≤ 140737488355328) ?_ ?_ | refine ⟨_, ⟨rfl, rfl⟩, ?_⟩ | refine ⟨_, And.intro (a := I64 _) ?_ ⟨rfl, rfl⟩, ?_⟩ | refine ⟨_, _, ⟨rfl, rfl⟩, ?_⟩ | refine ⟨_, (fun _ => ⟨rfl, rfl⟩), ?_⟩ | refine And.intro (a := chkPend _ _ _ _ _ _) ?_ ?_ | refine And.intro (a := chkPast _ _ _ _ _ _ _ _) ?_ ?_ | refine ⟨⟨rfl, rfl⟩, ?_⟩ | refine ⟨True.intro, ?_⟩ | refine ⟨_, ⟨_, rfl, ?_, rfl, rfl, rfl⟩, ?_⟩ | refine ⟨_, rfl, ?_, rfl, ?_⟩ | refine ⟨_, (fun _ => rfl), rfl, ?_⟩ | refine ⟨(fun _ => rfl), ?_⟩ | refine ⟨rfl, ?_⟩ | fail)
  refine ⟨⟨[99], 3, true, false⟩, rfl, ?_⟩
  refine hK _ rfl
end Gv
