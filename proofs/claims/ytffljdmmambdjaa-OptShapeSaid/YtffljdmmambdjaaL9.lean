/- What functions of the program come to (L9): in every world; the conditions stand in each theorem. -/
import Derived.Test.YtffljdmmambdjaaL8
set_option linter.unusedVariables false
set_option linter.unusedSectionVars false
set_option linter.unusedSimpArgs false
open Go Go.Proofs Gw Gp
namespace Gv
variable [Glob]
/-! graphs held against one another -/
theorem E9aok : EnvOK ⟨Try.prog, tys, [], [], [], [(79, [true, true])]⟩ := env_ok mixed0 tys0 .nil .nil .nil (by kernel_rfl)
theorem equalP_ca : callable Try.prog 50 = true := by kernel_rfl
def equalP_S : Spec := fun args K => ∃ a b : List Port, args = [.sl portV a, .sl portV b] ∧ K (.bool (decide (a = b)))
theorem equalP_ok : Pure Try.prog 50 equalP_S := by
  refine pure_by E9aok 0 (fi := {fn := Try.f50, hooks := [], draws := [(6, [0, 0, 3, 7, 0, 0, 48, 112, 255])]}) ⟨Try.func50, by kernel_rfl, by kernel_rfl⟩ ?_
  rintro _ K ⟨x, y, rfl, hK⟩
  replace hK : ∀ r, r = .bool (decide (x = y)) → K r := fun r h => h ▸ hK
  repeat' (first | exact True.intro | refine ⟨_, LeL.refl _, ?_⟩ | refine ⟨_, _, _, LeL.refl _, ?_⟩ | (refine fun (b : Bool) hb => ?_; cases b <;> (first | exact absurd hb (by decide) | exact Bool.noConfusion (show true = false from hb) | exact Bool.noConfusion (show false = true from hb) | skip)) | (refine fun (hl : _ ≤ MAXL) => ?_) | refine And.intro (a := I64 _) ?_ ?_ | refine And.intro (a := _ ≤ 140737488355328) ?_ ?_ | refine ⟨_, ⟨rfl, rfl⟩, ?_⟩ | refine ⟨_, And.intro (a := I64 _) ?_ ⟨rfl, rfl⟩, ?_⟩ | refine ⟨_, _, ⟨rfl, rfl⟩, ?_⟩ | refine ⟨_, (fun _ => ⟨rfl, rfl⟩), ?_⟩ | refine And.intro (a := chkPend _ _ _ _ _ _) ?_ ?_ | refine And.intro (a := chkPast _ _ _ _ _ _ _ _) ?_ ?_ | refine ⟨⟨rfl, rfl⟩, ?_⟩ | refine ⟨True.intro, ?_⟩ | refine ⟨_, ⟨_, rfl, ?_, rfl, rfl, rfl⟩, ?_⟩ | refine ⟨_, rfl, ?_, rfl, ?_⟩ | refine ⟨_, (fun _ => rfl), rfl, ?_⟩ | refine ⟨(fun _ => rfl), ?_⟩ | refine ⟨rfl, ?_⟩ | fail)
  rotate_left
  · refine hK _ ?_
    congr 1
    grind
  conv => whnf
  refine loop_live [0, 1, 12] (σ := Nat) (fun i => [(13, .int .i64 i)]) (fun _ => []) (fun i => i ≤ x.length ∧ x.take i = y.take i) (fun i => x.length - i) 0 ?_
  conv => whnf
  refine ⟨wk_sel [] rfl rfl trivial (by (repeat' (first | exact True.intro | exact rfl | exact Or.inl rfl | exact Or.inr rfl | refine And.intro ?_ ?_ | fail))), ⟨Nat.zero_le _, rfl⟩, ?_⟩
  intro i ⟨hi, hI⟩
  repeat' (first | exact True.intro | refine ⟨_, LeL.refl _, ?_⟩ | refine ⟨_, _, _, LeL.refl _, ?_⟩ | (refine fun (b : Bool) hb => ?_; cases b <;> (first | exact absurd hb (by decide) | exact Bool.noConfusion (show true = false from hb) | exact Bool.noConfusion (show false = true from hb) | skip)) | (refine fun (hl : _ ≤ MAXL) => ?_) | refine And.intro (a := I64 _) ?_ ?_ | refine And.intro (a := _ ≤ 140737488355328) ?_ ?_ | refine ⟨_, ⟨rfl, rfl⟩, ?_⟩ | refine ⟨_, And.intro (a := I64 _) ?_ ⟨rfl, rfl⟩, ?_⟩ | refine ⟨_, _, ⟨rfl, rfl⟩, ?_⟩ | refine ⟨_, (fun _ => ⟨rfl, rfl⟩), ?_⟩ | refine And.intro (a := chkPend _ _ _ _ _ _) ?_ ?_ | refine And.intro (a := chkPast _ _ _ _ _ _ _ _) ?_ ?_ | refine ⟨⟨rfl, rfl⟩, ?_⟩ | refine ⟨True.intro, ?_⟩ | refine ⟨_, ⟨_, rfl, ?_, rfl, rfl, rfl⟩, ?_⟩ | refine ⟨_, rfl, ?_, rfl, ?_⟩ | refine ⟨_, (fun _ => rfl), rfl, ?_⟩ | refine ⟨(fun _ => rfl), ?_⟩ | refine ⟨rfl, ?_⟩ | fail)
  all_goals try ((first | omega | (unfold I64; omega) | (simp only [List.length_append, List.length_map, List.length_cons, List.length_nil, Nat.mul_one, Int.ofNat_eq_natCast] at *; omega) | (dsimp only at *; omega) | (unfold I64; dsimp only at *; omega) | (unfold I64; grind) | grind); done)
  · refine hK _ ?_
    congr 1
    have e : x = y := by
      have h1 : x.take i = x := List.take_of_length_le (by grind)
      have h2 : y.take i = y := List.take_of_length_le (by grind)
      rw [← h1, ← h2, hI]
    simp [e]
  · have g1 : i < x.length := by grind
    have g2 : i < y.length := by grind
    refine ⟨i + 1, ?_, ⟨?_, ?_⟩, ?_⟩
    · refine wk_sel [] rfl rfl trivial ?_
      (repeat' (first | exact True.intro | exact rfl | exact Or.inl rfl | exact Or.inr rfl | refine And.intro ?_ ?_ | fail))
    · grind
    · rw [List.take_succ_eq_append_getElem g1, List.take_succ_eq_append_getElem g2, hI]
      have e : x[i] = y[i] := by
        have h1 : x[i].node = y[i].node ∧ x[i].out = y[i].out := by grind
        rcases hx : x[i] with ⟨a, b⟩
        rcases hy : y[i] with ⟨a', b'⟩
        rw [hx, hy] at h1
        simp only at h1
        rw [h1.1, h1.2]
      rw [e]
    · grind
  · refine hK _ ?_
    congr 1
    grind
theorem E9bok : EnvOK ⟨Try.prog, tys, [(50, equalP_S)], [], [], [(56, [true, false, true])]⟩ := env_ok mixed0 tys0 (.cons equalP_ca equalP_ok .nil) .nil .nil (by kernel_rfl)
theorem same1_ca : callable Try.prog 49 = true := by kernel_rfl
def same1_S : Spec := fun args K => ∃ a b : Gp.Node, args = [nodeV a, nodeV b] ∧ K (.bool (decide (a = b)))
theorem same1_ok : Pure Try.prog 49 same1_S := by
  refine pure_by E9bok 0 (fi := {fn := Try.f49, hooks := [], draws := []}) ⟨Try.func49, by kernel_rfl, by kernel_rfl⟩ ?_
  rintro _ K ⟨⟨k, f, ⟨ck, cw, cn⟩, h, w, ins⟩, ⟨k', f', ⟨ck', cw', cn'⟩, h', w', ins'⟩, rfl, hK⟩
  replace hK : ∀ r, r = .bool (decide ((⟨k, f, ⟨ck, cw, cn⟩, h, w, ins⟩ : Gp.Node) = ⟨k', f', ⟨ck', cw', cn'⟩, h', w', ins'⟩)) → K r := fun r h => h ▸ hK
  repeat' (first | exact True.intro | refine ⟨_, LeL.refl _, ?_⟩ | refine ⟨_, _, _, LeL.refl _, ?_⟩ | (refine fun (b : Bool) hb => ?_; cases b <;> (first | exact absurd hb (by decide) | exact Bool.noConfusion (show true = false from hb) | exact Bool.noConfusion (show false = true from hb) | skip)) | (refine fun (hl : _ ≤ MAXL) => ?_) | refine And.intro (a := I64 _) ?_ ?_ | refine And.intro (a := _ ≤ 140737488355328) ?_ ?_ | refine ⟨_, ⟨rfl, rfl⟩, ?_⟩ | refine ⟨_, And.intro (a := I64 _) ?_ ⟨rfl, rfl⟩, ?_⟩ | refine ⟨_, _, ⟨rfl, rfl⟩, ?_⟩ | refine ⟨_, (fun _ => ⟨rfl, rfl⟩), ?_⟩ | refine And.intro (a := chkPend _ _ _ _ _ _) ?_ ?_ | refine And.intro (a := chkPast _ _ _ _ _ _ _ _) ?_ ?_ | refine ⟨⟨rfl, rfl⟩, ?_⟩ | refine ⟨True.intro, ?_⟩ | refine ⟨_, ⟨_, rfl, ?_, rfl, rfl, rfl⟩, ?_⟩ | refine ⟨_, rfl, ?_, rfl, ?_⟩ | refine ⟨_, (fun _ => rfl), rfl, ?_⟩ | refine ⟨(fun _ => rfl), ?_⟩ | refine ⟨rfl, ?_⟩ | refine ⟨_, _, rfl, ?_⟩ | fail)
  all_goals refine hK _ ?_
  all_goals congr 1
  all_goals grind
/-! the plan that the documentation draws -/
def sorterNodes : List Gp.Node := [srcN [97], splitN 2 [⟨0, 0⟩], workN ⟨6, [], 0⟩ [⟨1, 0⟩], workN ⟨6, [], 0⟩ [⟨1, 1⟩], joinN 2 zCmd [⟨2, 0⟩, ⟨3, 0⟩], sinkN [98] [⟨4, 0⟩]]
theorem plan_sorter : plan ⟨[[97]], [⟨6, [], 0⟩], [98]⟩ 2 = (sorterNodes, 0) := by decide +kernel
theorem sorter_ca : callable Try.prog 41 = true := by kernel_rfl
def sorter_S : Spec := fun args K => args = [] ∧ K (.agg [.sl nodeV sorterNodes])
set_option maxRecDepth 10000 in
theorem sorter_ok : Pure Try.prog 41 sorter_S := by
  refine pure_by E0ok 0 (fi := {fn := Try.f41, hooks := [], draws := []}) ⟨Try.func41, by kernel_rfl, by kernel_rfl⟩ ?_
  rintro _ K ⟨rfl, hK⟩
  repeat' (first | exact True.intro | refine ⟨_, LeL.refl _, ?_⟩ | refine ⟨_, _, _, LeL.refl _, ?_⟩ | (refine fun (b : Bool) hb => ?_; cases b <;> (first | exact absurd hb (by decide) | exact Bool.noConfusion (show true = false from hb) | exact Bool.noConfusion (show false = true from hb) | skip)) | (refine fun (hl : _ ≤ MAXL) => ?_) | refine And.intro (a := I64 _) ?_ ?_ | refine And.intro (a := _ ≤ 140737488355328) ?_ ?_ | refine ⟨_, ⟨rfl, rfl⟩, ?_⟩ | refine ⟨_, And.intro (a := I64 _) ?_ ⟨rfl, rfl⟩, ?_⟩ | refine ⟨_, _, ⟨rfl, rfl⟩, ?_⟩ | refine ⟨_, (fun _ => ⟨rfl, rfl⟩), ?_⟩ | refine And.intro (a := chkPend _ _ _ _ _ _) ?_ ?_ | refine And.intro (a := chkPast _ _ _ _ _ _ _ _) ?_ ?_ | refine ⟨⟨rfl, rfl⟩, ?_⟩ | refine ⟨True.intro, ?_⟩ | refine ⟨_, ⟨_, rfl, ?_, rfl, rfl, rfl⟩, ?_⟩ | refine ⟨_, rfl, ?_, rfl, ?_⟩ | refine ⟨_, (fun _ => rfl), rfl, ?_⟩ | refine ⟨(fun _ => rfl), ?_⟩ | refine ⟨rfl, ?_⟩ | fail)
  refine ⟨Gp.Port, portV, ?_⟩
  repeat' (first | exact True.intro | refine ⟨_, LeL.refl _, ?_⟩ | refine ⟨_, _, _, LeL.refl _, ?_⟩ | (refine fun (b : Bool) hb => ?_; cases b <;> (first | exact absurd hb (by decide) | exact Bool.noConfusion (show true = false from hb) | exact Bool.noConfusion (show false = true from hb) | skip)) | (refine fun (hl : _ ≤ MAXL) => ?_) | refine And.intro (a := I64 _) ?_ ?_ | refine And.intro (a := _ ≤ 140737488355328) ?_ ?_ | refine ⟨_, ⟨rfl, rfl⟩, ?_⟩ | refine ⟨_, And.intro (a := I64 _) ?_ ⟨rfl, rfl⟩, ?_⟩ | refine ⟨_, _, ⟨rfl, rfl⟩, ?_⟩ | refine ⟨_, (fun _ => ⟨rfl, rfl⟩), ?_⟩ | refine And.intro (a := chkPend _ _ _ _ _ _) ?_ ?_ | refine And.intro (a := chkPast _ _ _ _ _ _ _ _) ?_ ?_ | refine ⟨⟨rfl, rfl⟩, ?_⟩ | refine ⟨True.intro, ?_⟩ | refine ⟨_, ⟨_, rfl, ?_, rfl, rfl, rfl⟩, ?_⟩ | refine ⟨_, rfl, ?_, rfl, ?_⟩ | refine ⟨_, (fun _ => rfl), rfl, ?_⟩ | refine ⟨(fun _ => rfl), ?_⟩ | refine ⟨rfl, ?_⟩ | fail)
  refine ⟨Gp.Port, portV, [⟨0, 0⟩], LeL.refl _, ?_⟩
  repeat' (first | exact True.intro | refine ⟨_, LeL.refl _, ?_⟩ | refine ⟨_, _, _, LeL.refl _, ?_⟩ | (refine fun (b : Bool) hb => ?_; cases b <;> (first | exact absurd hb (by decide) | exact Bool.noConfusion (show true = false from hb) | exact Bool.noConfusion (show false = true from hb) | skip)) | (refine fun (hl : _ ≤ MAXL) => ?_) | refine And.intro (a := I64 _) ?_ ?_ | refine And.intro (a := _ ≤ 140737488355328) ?_ ?_ | refine ⟨_, ⟨rfl, rfl⟩, ?_⟩ | refine ⟨_, And.intro (a := I64 _) ?_ ⟨rfl, rfl⟩, ?_⟩ | refine ⟨_, _, ⟨rfl, rfl⟩, ?_⟩ | refine ⟨_, (fun _ => ⟨rfl, rfl⟩), ?_⟩ | refine And.intro (a := chkPend _ _ _ _ _ _) ?_ ?_ | refine And.intro (a := chkPast _ _ _ _ _ _ _ _) ?_ ?_ | refine ⟨⟨rfl, rfl⟩, ?_⟩ | refine ⟨True.intro, ?_⟩ | refine ⟨_, ⟨_, rfl, ?_, rfl, rfl, rfl⟩, ?_⟩ | refine ⟨_, rfl, ?_, rfl, ?_⟩ | refine ⟨_, (fun _ => rfl), rfl, ?_⟩ | refine ⟨(fun _ => rfl), ?_⟩ | refine ⟨rfl, ?_⟩ | fail)
  refine ⟨Gp.Port, portV, [⟨1, 0⟩], LeL.refl _, ?_⟩
  repeat' (first | exact True.intro | refine ⟨_, LeL.refl _, ?_⟩ | refine ⟨_, _, _, LeL.refl _, ?_⟩ | (refine fun (b : Bool) hb => ?_; cases b <;> (first | exact absurd hb (by decide) | exact Bool.noConfusion (show true = false from hb) | exact Bool.noConfusion (show false = true from hb) | skip)) | (refine fun (hl : _ ≤ MAXL) => ?_) | refine And.intro (a := I64 _) ?_ ?_ | refine And.intro (a := _ ≤ 140737488355328) ?_ ?_ | refine ⟨_, ⟨rfl, rfl⟩, ?_⟩ | refine ⟨_, And.intro (a := I64 _) ?_ ⟨rfl, rfl⟩, ?_⟩ | refine ⟨_, _, ⟨rfl, rfl⟩, ?_⟩ | refine ⟨_, (fun _ => ⟨rfl, rfl⟩), ?_⟩ | refine And.intro (a := chkPend _ _ _ _ _ _) ?_ ?_ | refine And.intro (a := chkPast _ _ _ _ _ _ _ _) ?_ ?_ | refine ⟨⟨rfl, rfl⟩, ?_⟩ | refine ⟨True.intro, ?_⟩ | refine ⟨_, ⟨_, rfl, ?_, rfl, rfl, rfl⟩, ?_⟩ | refine ⟨_, rfl, ?_, rfl, ?_⟩ | refine ⟨_, (fun _ => rfl), rfl, ?_⟩ | refine ⟨(fun _ => rfl), ?_⟩ | refine ⟨rfl, ?_⟩ | fail)
  refine ⟨Gp.Port, portV, [⟨1, 1⟩], LeL.refl _, ?_⟩
  repeat' (first | exact True.intro | refine ⟨_, LeL.refl _, ?_⟩ | refine ⟨_, _, _, LeL.refl _, ?_⟩ | (refine fun (b : Bool) hb => ?_; cases b <;> (first | exact absurd hb (by decide) | exact Bool.noConfusion (show true = false from hb) | exact Bool.noConfusion (show false = true from hb) | skip)) | (refine fun (hl : _ ≤ MAXL) => ?_) | refine And.intro (a := I64 _) ?_ ?_ | refine And.intro (a := _ ≤ 140737488355328) ?_ ?_ | refine ⟨_, ⟨rfl, rfl⟩, ?_⟩ | refine ⟨_, And.intro (a := I64 _) ?_ ⟨rfl, rfl⟩, ?_⟩ | refine ⟨_, _, ⟨rfl, rfl⟩, ?_⟩ | refine ⟨_, (fun _ => ⟨rfl, rfl⟩), ?_⟩ | refine And.intro (a := chkPend _ _ _ _ _ _) ?_ ?_ | refine And.intro (a := chkPast _ _ _ _ _ _ _ _) ?_ ?_ | refine ⟨⟨rfl, rfl⟩, ?_⟩ | refine ⟨True.intro, ?_⟩ | refine ⟨_, ⟨_, rfl, ?_, rfl, rfl, rfl⟩, ?_⟩ | refine ⟨_, rfl, ?_, rfl, ?_⟩ | refine ⟨_, (fun _ => rfl), rfl, ?_⟩ | refine ⟨(fun _ => rfl), ?_⟩ | refine ⟨rfl, ?_⟩ | fail)
  refine ⟨Gp.Port, portV, [⟨2, 0⟩, ⟨3, 0⟩], LeL.refl _, ?_⟩
  repeat' (first | exact True.intro | refine ⟨_, LeL.refl _, ?_⟩ | refine ⟨_, _, _, LeL.refl _, ?_⟩ | (refine fun (b : Bool) hb => ?_; cases b <;> (first | exact absurd hb (by decide) | exact Bool.noConfusion (show true = false from hb) | exact Bool.noConfusion (show false = true from hb) | skip)) | (refine fun (hl : _ ≤ MAXL) => ?_) | refine And.intro (a := I64 _) ?_ ?_ | refine And.intro (a := _ ≤ 140737488355328) ?_ ?_ | refine ⟨_, ⟨rfl, rfl⟩, ?_⟩ | refine ⟨_, And.intro (a := I64 _) ?_ ⟨rfl, rfl⟩, ?_⟩ | refine ⟨_, _, ⟨rfl, rfl⟩, ?_⟩ | refine ⟨_, (fun _ => ⟨rfl, rfl⟩), ?_⟩ | refine And.intro (a := chkPend _ _ _ _ _ _) ?_ ?_ | refine And.intro (a := chkPast _ _ _ _ _ _ _ _) ?_ ?_ | refine ⟨⟨rfl, rfl⟩, ?_⟩ | refine ⟨True.intro, ?_⟩ | refine ⟨_, ⟨_, rfl, ?_, rfl, rfl, rfl⟩, ?_⟩ | refine ⟨_, rfl, ?_, rfl, ?_⟩ | refine ⟨_, (fun _ => rfl), rfl, ?_⟩ | refine ⟨(fun _ => rfl), ?_⟩ | refine ⟨rfl, ?_⟩ | fail)
  refine ⟨Gp.Port, portV, [⟨4, 0⟩], LeL.refl _, ?_⟩
  repeat' (first | exact True.intro | refine ⟨_, LeL.refl _, ?_⟩ | refine ⟨_, _, _, LeL.refl _, ?_⟩ | (refine fun (b : Bool) hb => ?_; cases b <;> (first | exact absurd hb (by decide) | exact Bool.noConfusion (show true = false from hb) | exact Bool.noConfusion (show false = true from hb) | skip)) | (refine fun (hl : _ ≤ MAXL) => ?_) | refine And.intro (a := I64 _) ?_ ?_ | refine And.intro (a := _ ≤ 140737488355328) ?_ ?_ | refine ⟨_, ⟨rfl, rfl⟩, ?_⟩ | refine ⟨_, And.intro (a := I64 _) ?_ ⟨rfl, rfl⟩, ?_⟩ | refine ⟨_, _, ⟨rfl, rfl⟩, ?_⟩ | refine ⟨_, (fun _ => ⟨rfl, rfl⟩), ?_⟩ | refine And.intro (a := chkPend _ _ _ _ _ _) ?_ ?_ | refine And.intro (a := chkPast _ _ _ _ _ _ _ _) ?_ ?_ | refine ⟨⟨rfl, rfl⟩, ?_⟩ | refine ⟨True.intro, ?_⟩ | refine ⟨_, ⟨_, rfl, ?_, rfl, rfl, rfl⟩, ?_⟩ | refine ⟨_, rfl, ?_, rfl, ?_⟩ | refine ⟨_, (fun _ => rfl), rfl, ?_⟩ | refine ⟨(fun _ => rfl), ?_⟩ | refine ⟨rfl, ?_⟩ | fail)
  refine ⟨Gp.Node, nodeV, sorterNodes, LeL.refl _, ?_⟩
  exact hK
/-! two graphs are the same -/
noncomputable def lib9 : List (Nat × Spec) := [(49, same1_S), (23, plan_S), (41, sorter_S)]
noncomputable def fns9 : List (Nat × FnI) := [(48, {fn := Try.f48, hooks := [], draws := []})]
theorem lib9_ok : LibOK Try.prog lib9 := .cons same1_ca same1_ok (.cons plan_ca plan_ok (.cons sorter_ca sorter_ok .nil))
theorem E9ok : EnvOK ⟨Try.prog, tys, lib9, fns9, [], []⟩ := env_ok mixed0 tys0 lib9_ok (.cons (by kernel_rfl) ⟨Try.func48, by kernel_rfl, by kernel_rfl⟩ .nil) .nil rfl
theorem same_ca : callable Try.prog 40 = true := by kernel_rfl
def same_S : Spec := fun args K => ∃ a b : List Gp.Node, args = [.agg [.sl nodeV a], .agg [.sl nodeV b]] ∧ K (.bool (decide (a = b)))
theorem same_ok : Pure Try.prog 40 same_S := by
  refine pure_by E9ok 2 (fi := {fn := Try.f40, hooks := [], draws := []}) ⟨Try.func40, by kernel_rfl, by kernel_rfl⟩ ?_
  rintro _ K ⟨x, y, rfl, hK⟩
  replace hK : ∀ r, r = .bool (decide (x = y)) → K r := fun r h => h ▸ hK
  repeat' (first | exact True.intro | refine ⟨_, LeL.refl _, ?_⟩ | refine ⟨_, _, _, LeL.refl _, ?_⟩ | (refine fun (b : Bool) hb => ?_; cases b <;> (first | exact absurd hb (by decide) | exact Bool.noConfusion (show true = false from hb) | exact Bool.noConfusion (show false = true from hb) | skip)) | (refine fun (hl : _ ≤ MAXL) => ?_) | refine And.intro (a := I64 _) ?_ ?_ | refine And.intro (a := _ ≤ 140737488355328) ?_ ?_ | refine ⟨_, ⟨rfl, rfl⟩, ?_⟩ | refine ⟨_, And.intro (a := I64 _) ?_ ⟨rfl, rfl⟩, ?_⟩ | refine ⟨_, _, ⟨rfl, rfl⟩, ?_⟩ | refine ⟨_, (fun _ => ⟨rfl, rfl⟩), ?_⟩ | refine And.intro (a := chkPend _ _ _ _ _ _) ?_ ?_ | refine And.intro (a := chkPast _ _ _ _ _ _ _ _) ?_ ?_ | refine ⟨⟨rfl, rfl⟩, ?_⟩ | refine ⟨True.intro, ?_⟩ | refine ⟨_, ⟨_, rfl, ?_, rfl, rfl, rfl⟩, ?_⟩ | refine ⟨_, rfl, ?_, rfl, ?_⟩ | refine ⟨_, (fun _ => rfl), rfl, ?_⟩ | refine ⟨(fun _ => rfl), ?_⟩ | refine ⟨rfl, ?_⟩ | fail)
  rotate_left
  · refine hK _ ?_
    congr 1
    grind
  conv => whnf
  refine loop_live [1, 2, 15, 16] (σ := Nat) (fun i => [(17, .int .i64 i)]) (fun _ => [.box [.sl nodeV x], .box [.sl nodeV y]]) (fun i => i ≤ x.length ∧ x.take i = y.take i) (fun i => x.length - i) 0 ?_
  conv => whnf
  refine ⟨(by (refine wk_sel [some 0, some 1] rfl rfl ?_ ?_ <;> (repeat' (first | exact True.intro | exact rfl | exact Or.inl rfl | exact Or.inr rfl | refine And.intro ?_ ?_ | fail)))), ⟨Nat.zero_le _, rfl⟩, ?_⟩
  intro i ⟨hi, hI⟩
  repeat' (first | exact True.intro | refine ⟨_, LeL.refl _, ?_⟩ | refine ⟨_, _, _, LeL.refl _, ?_⟩ | (refine fun (b : Bool) hb => ?_; cases b <;> (first | exact absurd hb (by decide) | exact Bool.noConfusion (show true = false from hb) | exact Bool.noConfusion (show false = true from hb) | skip)) | (refine fun (hl : _ ≤ MAXL) => ?_) | refine And.intro (a := I64 _) ?_ ?_ | refine And.intro (a := _ ≤ 140737488355328) ?_ ?_ | refine ⟨_, ⟨rfl, rfl⟩, ?_⟩ | refine ⟨_, And.intro (a := I64 _) ?_ ⟨rfl, rfl⟩, ?_⟩ | refine ⟨_, _, ⟨rfl, rfl⟩, ?_⟩ | refine ⟨_, (fun _ => ⟨rfl, rfl⟩), ?_⟩ | refine And.intro (a := chkPend _ _ _ _ _ _) ?_ ?_ | refine And.intro (a := chkPast _ _ _ _ _ _ _ _) ?_ ?_ | refine ⟨⟨rfl, rfl⟩, ?_⟩ | refine ⟨True.intro, ?_⟩ | refine ⟨_, ⟨_, rfl, ?_, rfl, rfl, rfl⟩, ?_⟩ | refine ⟨_, rfl, ?_, rfl, ?_⟩ | refine ⟨_, (fun _ => rfl), rfl, ?_⟩ | refine ⟨(fun _ => rfl), ?_⟩ | refine ⟨rfl, ?_⟩ | fail)
  all_goals try ((first | omega | (unfold I64; omega) | (simp only [List.length_append, List.length_map, List.length_cons, List.length_nil, Nat.mul_one, Int.ofNat_eq_natCast] at *; omega) | (dsimp only at *; omega) | (unfold I64; dsimp only at *; omega) | (unfold I64; grind) | grind); done)
  · refine hK _ ?_
    congr 1
    have e : x = y := by
      have h1 : x.take i = x := List.take_of_length_le (by grind)
      have h2 : y.take i = y := List.take_of_length_le (by grind)
      rw [← h1, ← h2, hI]
    simp [e]
  have g1 : i < x.length := by grind
  have g2 : i < y.length := by grind
  refine ⟨x[i], y[i], rfl, ?_⟩
  repeat' (first | exact True.intro | refine ⟨_, LeL.refl _, ?_⟩ | refine ⟨_, _, _, LeL.refl _, ?_⟩ | (refine fun (b : Bool) hb => ?_; cases b <;> (first | exact absurd hb (by decide) | exact Bool.noConfusion (show true = false from hb) | exact Bool.noConfusion (show false = true from hb) | skip)) | (refine fun (hl : _ ≤ MAXL) => ?_) | refine And.intro (a := I64 _) ?_ ?_ | refine And.intro (a := _ ≤ 140737488355328) ?_ ?_ | refine ⟨_, ⟨rfl, rfl⟩, ?_⟩ | refine ⟨_, And.intro (a := I64 _) ?_ ⟨rfl, rfl⟩, ?_⟩ | refine ⟨_, _, ⟨rfl, rfl⟩, ?_⟩ | refine ⟨_, (fun _ => ⟨rfl, rfl⟩), ?_⟩ | refine And.intro (a := chkPend _ _ _ _ _ _) ?_ ?_ | refine And.intro (a := chkPast _ _ _ _ _ _ _ _) ?_ ?_ | refine ⟨⟨rfl, rfl⟩, ?_⟩ | refine ⟨True.intro, ?_⟩ | refine ⟨_, ⟨_, rfl, ?_, rfl, rfl, rfl⟩, ?_⟩ | refine ⟨_, rfl, ?_, rfl, ?_⟩ | refine ⟨_, (fun _ => rfl), rfl, ?_⟩ | refine ⟨(fun _ => rfl), ?_⟩ | refine ⟨rfl, ?_⟩ | fail)
  all_goals try ((first | omega | (unfold I64; omega) | (simp only [List.length_append, List.length_map, List.length_cons, List.length_nil, Nat.mul_one, Int.ofNat_eq_natCast] at *; omega) | (dsimp only at *; omega) | (unfold I64; dsimp only at *; omega) | (unfold I64; grind) | grind); done)
  · refine ⟨i + 1, ?_, ⟨?_, ?_⟩, ?_⟩
    · exact (by (refine wk_sel [some 0, some 1] rfl rfl ?_ ?_ <;> (repeat' (first | exact True.intro | exact rfl | exact Or.inl rfl | exact Or.inr rfl | refine And.intro ?_ ?_ | fail))))
    · grind
    · rw [List.take_succ_eq_append_getElem g1, List.take_succ_eq_append_getElem g2, hI]
      have e : x[i] = y[i] := by grind
      rw [e]
    · grind
  · refine hK _ ?_
    congr 1
    grind
/-! the drawn plan is planned -/
noncomputable def lib9b : List (Nat × Spec) := (40, same_S) :: lib9
theorem E9pok : EnvOK ⟨Try.prog, tys, lib9b, [], [], []⟩ := env_ok mixed0 tys0 (.cons same_ca same_ok lib9_ok) .nil .nil rfl
theorem planned_ca : callable Try.prog 24 = true := by kernel_rfl
def planned_S : Spec := fun args K => args = [] ∧ K (.bool true)
theorem planned_ok : Pure Try.prog 24 planned_S := by
  refine pure_by E9pok 0 (fi := {fn := Try.f24, hooks := [], draws := [(2, [0, 1, 3, 7, 7, 31, 63, 127])]}) ⟨Try.func24, by kernel_rfl, by kernel_rfl⟩ ?_
  rintro _ K ⟨rfl, hK⟩
  have e1 := plan_sorter
  obtain ⟨pn, hpn⟩ : ∃ pn, plan ⟨[[97]], [⟨6, [], 0⟩], [98]⟩ 2 = pn := ⟨_, rfl⟩
  rw [hpn] at e1
  subst e1
  repeat' (first | exact True.intro | refine ⟨_, LeL.refl _, ?_⟩ | refine ⟨_, _, _, LeL.refl _, ?_⟩ | (refine fun (b : Bool) hb => ?_; cases b <;> (first | exact absurd hb (by decide) | exact Bool.noConfusion (show true = false from hb) | exact Bool.noConfusion (show false = true from hb) | skip)) | (refine fun (hl : _ ≤ MAXL) => ?_) | refine And.intro (a := I64 _) ?_ ?_ | refine And.intro (a := _ ≤ 140737488355328) ?_ ?_ | refine ⟨_, ⟨rfl, rfl⟩, ?_⟩ | refine ⟨_, And.intro (a := I64 _) ?_ ⟨rfl, rfl⟩, ?_⟩ | refine ⟨_, _, ⟨rfl, rfl⟩, ?_⟩ | refine ⟨_, (fun _ => ⟨rfl, rfl⟩), ?_⟩ | refine And.intro (a := chkPend _ _ _ _ _ _) ?_ ?_ | refine And.intro (a := chkPast _ _ _ _ _ _ _ _) ?_ ?_ | refine ⟨⟨rfl, rfl⟩, ?_⟩ | refine ⟨True.intro, ?_⟩ | refine ⟨_, ⟨_, rfl, ?_, rfl, rfl, rfl⟩, ?_⟩ | refine ⟨_, rfl, ?_, rfl, ?_⟩ | refine ⟨_, (fun _ => rfl), rfl, ?_⟩ | refine ⟨(fun _ => rfl), ?_⟩ | refine ⟨rfl, ?_⟩ | fail)
  refine ⟨_, strV, [[97]], LeL.refl _, ?_⟩
  refine ⟨_, cmdV, [⟨6, [], 0⟩], LeL.refl _, ?_⟩
  refine ⟨[[97]], [⟨6, [], 0⟩], [98], 2, rfl, ?_⟩
  rw [hpn]
  repeat' (first | exact True.intro | refine ⟨_, LeL.refl _, ?_⟩ | refine ⟨_, _, _, LeL.refl _, ?_⟩ | (refine fun (b : Bool) hb => ?_; cases b <;> (first | exact absurd hb (by decide) | exact Bool.noConfusion (show true = false from hb) | exact Bool.noConfusion (show false = true from hb) | skip)) | (refine fun (hl : _ ≤ MAXL) => ?_) | refine And.intro (a := I64 _) ?_ ?_ | refine And.intro (a := _ ≤ 140737488355328) ?_ ?_ | refine ⟨_, ⟨rfl, rfl⟩, ?_⟩ | refine ⟨_, And.intro (a := I64 _) ?_ ⟨rfl, rfl⟩, ?_⟩ | refine ⟨_, _, ⟨rfl, rfl⟩, ?_⟩ | refine ⟨_, (fun _ => ⟨rfl, rfl⟩), ?_⟩ | refine And.intro (a := chkPend _ _ _ _ _ _) ?_ ?_ | refine And.intro (a := chkPast _ _ _ _ _ _ _ _) ?_ ?_ | refine ⟨⟨rfl, rfl⟩, ?_⟩ | refine ⟨True.intro, ?_⟩ | refine ⟨_, ⟨_, rfl, ?_, rfl, rfl, rfl⟩, ?_⟩ | refine ⟨_, rfl, ?_, rfl, ?_⟩ | refine ⟨_, (fun _ => rfl), rfl, ?_⟩ | refine ⟨(fun _ => rfl), ?_⟩ | refine ⟨rfl, ?_⟩ | fail)
  refine ⟨_, ⟨rfl, rfl, rfl⟩, ?_⟩
  repeat' (first | exact True.intro | refine ⟨_, LeL.refl _, ?_⟩ | refine ⟨_, _, _, LeL.refl _, ?_⟩ | (refine fun (b : Bool) hb => ?_; cases b <;> (first | exact absurd hb (by decide) | exact Bool.noConfusion (show true = false from hb) | exact Bool.noConfusion (show false = true from hb) | skip)) | (refine fun (hl : _ ≤ MAXL) => ?_) | refine And.intro (a := I64 _) ?_ ?_ | refine And.intro (a := _ ≤ 140737488355328) ?_ ?_ | refine ⟨_, ⟨rfl, rfl⟩, ?_⟩ | refine ⟨_, And.intro (a := I64 _) ?_ ⟨rfl, rfl⟩, ?_⟩ | refine ⟨_, _, ⟨rfl, rfl⟩, ?_⟩ | refine ⟨_, (fun _ => ⟨rfl, rfl⟩), ?_⟩ | refine And.intro (a := chkPend _ _ _ _ _ _) ?_ ?_ | refine And.intro (a := chkPast _ _ _ _ _ _ _ _) ?_ ?_ | refine ⟨⟨rfl, rfl⟩, ?_⟩ | refine ⟨True.intro, ?_⟩ | refine ⟨_, ⟨_, rfl, ?_, rfl, rfl, rfl⟩, ?_⟩ | refine ⟨_, rfl, ?_, rfl, ?_⟩ | refine ⟨_, (fun _ => rfl), rfl, ?_⟩ | refine ⟨(fun _ => rfl), ?_⟩ | refine ⟨rfl, ?_⟩ | fail)
  refine ⟨_, ⟨_, _, rfl, rfl, rfl⟩, ?_⟩
  repeat' (first | exact True.intro | refine ⟨_, LeL.refl _, ?_⟩ | refine ⟨_, _, _, LeL.refl _, ?_⟩ | (refine fun (b : Bool) hb => ?_; cases b <;> (first | exact absurd hb (by decide) | exact Bool.noConfusion (show true = false from hb) | exact Bool.noConfusion (show false = true from hb) | skip)) | (refine fun (hl : _ ≤ MAXL) => ?_) | refine And.intro (a := I64 _) ?_ ?_ | refine And.intro (a := _ ≤ 140737488355328) ?_ ?_ | refine ⟨_, ⟨rfl, rfl⟩, ?_⟩ | refine ⟨_, And.intro (a := I64 _) ?_ ⟨rfl, rfl⟩, ?_⟩ | refine ⟨_, _, ⟨rfl, rfl⟩, ?_⟩ | refine ⟨_, (fun _ => ⟨rfl, rfl⟩), ?_⟩ | refine And.intro (a := chkPend _ _ _ _ _ _) ?_ ?_ | refine And.intro (a := chkPast _ _ _ _ _ _ _ _) ?_ ?_ | refine ⟨⟨rfl, rfl⟩, ?_⟩ | refine ⟨True.intro, ?_⟩ | refine ⟨_, ⟨_, rfl, ?_, rfl, rfl, rfl⟩, ?_⟩ | refine ⟨_, rfl, ?_, rfl, ?_⟩ | refine ⟨_, (fun _ => rfl), rfl, ?_⟩ | refine ⟨(fun _ => rfl), ?_⟩ | refine ⟨rfl, ?_⟩ | fail)
  have e2 : V.bool (decide ((sorterNodes, (0 : Int)).1 = sorterNodes)) = .bool true := by simp
  exact e2 ▸ hK
/-! Counts in a map. -/
theorem mget_mput {α : Type} (z : α) : ∀ (l : List (List Int × α)) (k : List Int) (a : α) (k' : List Int), mget z (mput l k a) k' = if k = k' then a else mget z l k'
  | [], k, a, k' => by simp [mput, mget]
  | (j, b) :: r, k, a, k' => by
    unfold mput
    by_cases h : j = k
    · subst h
      simp only [if_true, mget]
      split <;> rfl
    · simp only [h, if_false, mget, mget_mput z r k a k']
      by_cases h1 : j = k'
      · subst h1
        have h2 : ¬ k = j := fun e => h e.symm
        simp [h2]
      · simp [h1]
noncomputable def lib10 : List (Nat × Spec) := (24, planned_S) :: lib9
theorem E10ok : EnvOK ⟨Try.prog, tys, lib10, [], [], []⟩ := env_ok mixed0 tys0 (.cons planned_ca planned_ok lib9_ok) .nil .nil rfl
def shape_S : Spec := fun args K => ∃ (f : List Bs) (c : List Cmd) (t : Bs) (w : Int), args = [.agg [.sl strV f, .sl cmdV c, .str t], .int .i64 w] ∧ K (.bool true)
set_option maxHeartbeats 1000000 in
theorem shape_ok : Pure Try.prog 6 shape_S := by
  refine pure_by E10ok 0 (fi := {fn := Try.f6, hooks := [], draws := [(12, [0, 1, 0, 4, 12, 31, 63, 127, 255, 511, 1023, 2047, 4095, 8191, 4095, 4095, 36863, 102399, 249855, 524287, 1048575, 2097151, 4194303, 8388607, 16777215, 33554431, 67108863, 134217727, 268435455, 536870911, 1073741823, 2147483647, 4294967295, 2147483647, 10737418239, 27917287423, 62277025791, 137438953471, 274877906943, 549755813887, 2147483647, 1101659111423, 4398046511103, 8796093022207, 17592186044415])]}) ⟨Try.func6, by kernel_rfl, by kernel_rfl⟩ ?_
  rintro _ K ⟨f, c, t, w, rfl, hK⟩
  obtain ⟨p, hp⟩ : ∃ p, plan ⟨f, c, t⟩ w = p := ⟨_, rfl⟩
  refine ⟨f, c, t, w, rfl, ?_⟩
  rw [hp]
  obtain ⟨N, e⟩ := p
  by_cases he : e = 0
  rotate_left
  · repeat' (first | exact True.intro | refine ⟨_, LeL.refl _, ?_⟩ | refine ⟨_, _, _, LeL.refl _, ?_⟩ | (refine fun (b : Bool) hb => ?_; cases b <;> (first | exact absurd hb (by decide) | exact Bool.noConfusion (show true = false from hb) | exact Bool.noConfusion (show false = true from hb) | skip)) | (refine fun (hl : _ ≤ MAXL) => ?_) | refine And.intro (a := I64 _) ?_ ?_ | refine And.intro (a := _ ≤ 140737488355328) ?_ ?_ | refine ⟨_, ⟨rfl, rfl⟩, ?_⟩ | refine ⟨_, And.intro (a := I64 _) ?_ ⟨rfl, rfl⟩, ?_⟩ | refine ⟨_, _, ⟨rfl, rfl⟩, ?_⟩ | refine ⟨_, (fun _ => ⟨rfl, rfl⟩), ?_⟩ | refine And.intro (a := chkPend _ _ _ _ _ _) ?_ ?_ | refine And.intro (a := chkPast _ _ _ _ _ _ _ _) ?_ ?_ | refine ⟨⟨rfl, rfl⟩, ?_⟩ | refine ⟨True.intro, ?_⟩ | refine ⟨_, ⟨_, rfl, ?_, rfl, rfl, rfl⟩, ?_⟩ | refine ⟨_, rfl, ?_, rfl, ?_⟩ | refine ⟨_, (fun _ => rfl), rfl, ?_⟩ | refine ⟨(fun _ => rfl), ?_⟩ | refine ⟨rfl, ?_⟩ | fail)
    · exfalso
      simp [he] at *
    · exact hK
  subst he
  obtain ⟨hfl, hcl, hw, hN⟩ : (1 ≤ f.length ∧ f.length ≤ 4) ∧ c.length ≤ 6 ∧ (1 ≤ w ∧ w ≤ 5) ∧ planNodes ⟨f, c, t⟩ w = N := by
    unfold plan at hp
    split at hp
    · rename_i h
      exact absurd (congrArg Prod.snd hp) h
    · rename_i h
      simp only [ne_eq, Classical.not_not] at h
      have h0 : (1 ≤ f.length ∧ f.length ≤ 4) ∧ c.length ≤ 6 := by
        unfold checkLine at h
        split at h
        · cases h
        · rename_i h2
          dsimp only at h2
          omega
      split at hp
      · exact absurd (congrArg Prod.snd hp) (show ¬ (3 : Int) = 0 by decide)
      · exact ⟨h0.1, h0.2, by omega, congrArg Prod.fst hp⟩
  obtain ⟨c1, c5, c3, c2, sp⟩ := plan_shape (l := ⟨f, c, t⟩) hfl hw
  have hlast : ∃ M q, N = M ++ [sinkN t q] := ⟨_, _, hN.symm⟩
  rw [hN] at c1 c5 c3 c2 sp
  clear hp
  repeat' (first | exact True.intro | refine ⟨_, LeL.refl _, ?_⟩ | refine ⟨_, _, _, LeL.refl _, ?_⟩ | (refine fun (b : Bool) hb => ?_; cases b <;> (first | exact absurd hb (by decide) | exact Bool.noConfusion (show true = false from hb) | exact Bool.noConfusion (show false = true from hb) | skip)) | (refine fun (hl : _ ≤ MAXL) => ?_) | refine And.intro (a := I64 _) ?_ ?_ | refine And.intro (a := _ ≤ 140737488355328) ?_ ?_ | refine ⟨_, ⟨rfl, rfl⟩, ?_⟩ | refine ⟨_, And.intro (a := I64 _) ?_ ⟨rfl, rfl⟩, ?_⟩ | refine ⟨_, _, ⟨rfl, rfl⟩, ?_⟩ | refine ⟨_, (fun _ => ⟨rfl, rfl⟩), ?_⟩ | refine And.intro (a := chkPend _ _ _ _ _ _) ?_ ?_ | refine And.intro (a := chkPast _ _ _ _ _ _ _ _) ?_ ?_ | refine ⟨⟨rfl, rfl⟩, ?_⟩ | refine ⟨True.intro, ?_⟩ | refine ⟨_, ⟨_, rfl, ?_, rfl, rfl, rfl⟩, ?_⟩ | refine ⟨_, rfl, ?_, rfl, ?_⟩ | refine ⟨_, (fun _ => rfl), rfl, ?_⟩ | refine ⟨(fun _ => rfl), ?_⟩ | refine ⟨rfl, ?_⟩ | refine ⟨Int, (fun n => .int .i64 n), ?_⟩ | fail)
  conv => whnf
  refine loop_live [1, 2, 5, 7, 25, 26] (σ := Nat × List (List Int × Int)) (fun s => [(27, .int .i64 s.1)]) (fun s => [.box [.sl strV f, .sl cmdV c, .str t], .box [.sl nodeV N], .mp 3 3 .int (fun n : Int => .int .i64 n) s.2]) (fun s => s.1 ≤ N.length ∧ ∀ k, mget 0 s.2 [k] = cnt k (N.take s.1)) (fun s => N.length - s.1) (0, []) ?_
  conv => whnf
  refine ⟨(by (refine wk_sel [some 0, some 1, some 2] rfl rfl ?_ ?_ <;> (repeat' (first | exact True.intro | exact rfl | exact Or.inl rfl | exact Or.inr rfl | refine And.intro ?_ ?_ | fail)))), ⟨Nat.zero_le _, fun k => rfl⟩, fun s hs => ?_⟩
  obtain ⟨i, E⟩ := s
  obtain ⟨hi, hE⟩ := hs
  dsimp only at hi hE
  have hEb : ∀ k, 0 ≤ mget 0 E [k] ∧ mget 0 E [k] ≤ i := fun k => by
    have h1 : cnt k (N.take i) ≤ (N.take i).length := List.length_filter_le _ _
    rw [List.length_take] at h1
    rw [hE k]
    omega
  have hmk : ∀ hiN : i < N.length, ∀ k, mget 0 (mput E [N[i].kind] (mget 0 E [N[i].kind] + 1)) [k] = cnt k (N.take (i + 1)) := fun hiN k => by
    rw [mget_mput, List.take_succ_eq_append_getElem hiN, cnt_snoc, hE, hE]
    by_cases h : N[i].kind = k
    · subst h
      simp
    · simp [h]
  have hlN : N.length ≤ 9223372036854775807 := hl
  have hiN : decide ((i : Int) < (N.length : Int)) = true → i < N.length := fun h => by
    have := of_decide_eq_true h
    omega
  repeat' (first | exact True.intro | refine ⟨_, LeL.refl _, ?_⟩ | refine ⟨_, _, _, LeL.refl _, ?_⟩ | (refine fun (b : Bool) hb => ?_; cases b <;> (first | exact absurd hb (by decide) | exact Bool.noConfusion (show true = false from hb) | exact Bool.noConfusion (show false = true from hb) | skip)) | (refine fun (hl : _ ≤ MAXL) => ?_) | refine And.intro (a := I64 _) ?_ ?_ | refine And.intro (a := _ ≤ 140737488355328) ?_ ?_ | refine ⟨_, ⟨rfl, rfl⟩, ?_⟩ | refine ⟨_, And.intro (a := I64 _) ?_ ⟨rfl, rfl⟩, ?_⟩ | refine ⟨_, _, ⟨rfl, rfl⟩, ?_⟩ | refine ⟨_, (fun _ => ⟨rfl, rfl⟩), ?_⟩ | refine And.intro (a := chkPend _ _ _ _ _ _) ?_ ?_ | refine And.intro (a := chkPast _ _ _ _ _ _ _ _) ?_ ?_ | refine ⟨⟨rfl, rfl⟩, ?_⟩ | refine ⟨True.intro, ?_⟩ | refine ⟨_, ⟨_, rfl, ?_, rfl, rfl, rfl⟩, ?_⟩ | refine ⟨_, rfl, ?_, rfl, ?_⟩ | refine ⟨_, (fun _ => rfl), rfl, ?_⟩ | refine ⟨(fun _ => rfl), ?_⟩ | refine ⟨rfl, ?_⟩ | refine ⟨(0 : Int), rfl, ?_⟩ | refine ⟨_, rfl, rfl, rfl, ?_⟩ | fail)
  rotate_left
  · exact hiN (by assumption)
  · have hiN := hiN (by assumption)
    have h := hEb N[i].kind
    show I64 (mget 0 E [N[i].kind] + 1)
    unfold I64
    omega
  · exact rfl
  · have hiN := hiN (by assumption)
    show I64 ((i : Int) + 1)
    unfold I64
    omega
  · have hiN := hiN (by assumption)
    refine ⟨(i + 1, mput E [N[i].kind] (mget 0 E [N[i].kind] + 1)), ?_, ⟨hiN, hmk hiN⟩, by show N.length - (i + 1) < N.length - i; omega⟩
    exact (by (refine wk_sel [some 0, some 1, some 2] rfl rfl ?_ ?_ <;> (repeat' (first | exact True.intro | exact rfl | exact Or.inl rfl | exact Or.inr rfl | refine And.intro ?_ ?_ | fail))))
  · have hiN := hiN (by assumption)
    show I64 ((i : Int) + 1)
    unfold I64
    omega
  · have hiN := hiN (by assumption)
    refine ⟨(i + 1, mput E [N[i].kind] (mget 0 E [N[i].kind] + 1)), ?_, ⟨hiN, hmk hiN⟩, by show N.length - (i + 1) < N.length - i; omega⟩
    exact (by (refine wk_sel [some 0, some 1, some 2] rfl rfl ?_ ?_ <;> (repeat' (first | exact True.intro | exact rfl | exact Or.inl rfl | exact Or.inr rfl | refine And.intro ?_ ?_ | fail))))
  · exfalso
    have hiN := hiN (by assumption)
    have h1 : N[i].kind = 2 := of_decide_eq_true (by assumption)
    have h2 := sp N[i] (List.getElem_mem hiN) h1
    have h3 : (!decide (N[i].wide = w)) = true := by assumption
    simp [h2] at h3
  have hiE : i = N.length := by
    have := of_decide_eq_false (show decide ((i : Int) < (N.length : Int)) = false by assumption)
    omega
  rw [hiE, List.take_length] at hE
  obtain ⟨M, q, hM⟩ := hlast
  have hMl : N.length = M.length + 1 := by rw [hM]; simp
  have hMg : ∀ h : M.length < N.length, N[M.length].file = t := fun h => by
    subst hM
    simp [sinkN]
  have hK3 : ∀ h : M.length < N.length, K (.bool (decide (N[M.length].file = t))) := fun h => by
    rw [hMg h]
    simpa using hK
  have hwc : I64 (w * (c.length : Int)) := by
    have : w = 1 ∨ w = 2 ∨ w = 3 ∨ w = 4 ∨ w = 5 := by omega
    unfold I64
    rcases this with rfl | rfl | rfl | rfl | rfl <;> omega
  have hNI : I64 ((N.length : Int) - 1) := by
    unfold I64
    omega
  have m1 : (mget 0 E [1] : Int) = f.length := by rw [hE, c1]
  have m5 : (mget 0 E [5] : Int) = 1 := by rw [hE, c5]; rfl
  have m3 : (mget 0 E [3] : Int) = w * c.length := by rw [hE, c3]
  have m2 : w = 1 → (mget 0 E [2] : Int) = 0 := fun h => by rw [hE, c2 h]; rfl
  repeat' (first | exact True.intro | refine ⟨_, LeL.refl _, ?_⟩ | refine ⟨_, _, _, LeL.refl _, ?_⟩ | (refine fun (b : Bool) hb => ?_; cases b <;> (first | exact absurd hb (by decide) | exact Bool.noConfusion (show true = false from hb) | exact Bool.noConfusion (show false = true from hb) | skip)) | (refine fun (hl : _ ≤ MAXL) => ?_) | refine And.intro (a := I64 _) ?_ ?_ | refine And.intro (a := _ ≤ 140737488355328) ?_ ?_ | refine ⟨_, ⟨rfl, rfl⟩, ?_⟩ | refine ⟨_, And.intro (a := I64 _) ?_ ⟨rfl, rfl⟩, ?_⟩ | refine ⟨_, _, ⟨rfl, rfl⟩, ?_⟩ | refine ⟨_, (fun _ => ⟨rfl, rfl⟩), ?_⟩ | refine And.intro (a := chkPend _ _ _ _ _ _) ?_ ?_ | refine And.intro (a := chkPast _ _ _ _ _ _ _ _) ?_ ?_ | refine ⟨⟨rfl, rfl⟩, ?_⟩ | refine ⟨True.intro, ?_⟩ | refine ⟨_, ⟨_, rfl, ?_, rfl, rfl, rfl⟩, ?_⟩ | refine ⟨_, rfl, ?_, rfl, ?_⟩ | refine ⟨_, (fun _ => rfl), rfl, ?_⟩ | refine ⟨(fun _ => rfl), ?_⟩ | refine ⟨rfl, ?_⟩ | refine ⟨_, ⟨(0 : Int), rfl, rfl, rfl⟩, ?_⟩ | fail)
  all_goals try exact hwc
  all_goals try exact hNI
  · exact absurd m1 (of_decide_eq_false (by assumption))
  · exact absurd m5 (of_decide_eq_false (by assumption))
  · exact absurd m3 (of_decide_eq_false (by assumption))
  · exact absurd (m2 (by have := of_decide_eq_false (show decide (1 < w) = false by assumption); omega)) (of_decide_eq_false (by assumption))
  all_goals refine ⟨_, ⟨M.length, by omega, by show M.length < N.length; omega, rfl, rfl, rfl⟩, ?_⟩
  all_goals repeat' (first | exact True.intro | refine ⟨_, LeL.refl _, ?_⟩ | refine ⟨_, _, _, LeL.refl _, ?_⟩ | (refine fun (b : Bool) hb => ?_; cases b <;> (first | exact absurd hb (by decide) | exact Bool.noConfusion (show true = false from hb) | exact Bool.noConfusion (show false = true from hb) | skip)) | (refine fun (hl : _ ≤ MAXL) => ?_) | refine And.intro (a := I64 _) ?_ ?_ | refine And.intro (a := _ ≤ 140737488355328) ?_ ?_ | refine ⟨_, ⟨rfl, rfl⟩, ?_⟩ | refine ⟨_, And.intro (a := I64 _) ?_ ⟨rfl, rfl⟩, ?_⟩ | refine ⟨_, _, ⟨rfl, rfl⟩, ?_⟩ | refine ⟨_, (fun _ => ⟨rfl, rfl⟩), ?_⟩ | refine And.intro (a := chkPend _ _ _ _ _ _) ?_ ?_ | refine And.intro (a := chkPast _ _ _ _ _ _ _ _) ?_ ?_ | refine ⟨⟨rfl, rfl⟩, ?_⟩ | refine ⟨True.intro, ?_⟩ | refine ⟨_, ⟨_, rfl, ?_, rfl, rfl, rfl⟩, ?_⟩ | refine ⟨_, rfl, ?_, rfl, ?_⟩ | refine ⟨_, (fun _ => rfl), rfl, ?_⟩ | refine ⟨(fun _ => rfl), ?_⟩ | refine ⟨rfl, ?_⟩ | fail)
  all_goals exact hK3 _
end Gv
