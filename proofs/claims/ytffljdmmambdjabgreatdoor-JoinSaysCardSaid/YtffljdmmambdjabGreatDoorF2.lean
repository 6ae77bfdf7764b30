/- What functions of the program come to, part 2: in every world; the conditions stand in each theorem. -/
import Derived.Test.YtffljdmmambdjabGreatDoorF1
set_option linter.unusedVariables false
set_option linter.unusedSectionVars false
set_option linter.unusedSimpArgs false
open Go Go.Proofs Gw Gp
namespace Gv
variable [Glob] [Laid]
def usesTab : List (List Int × Bs) := [([1], [119]), ([2], [119]), ([3], [119]), ([4], [110]), ([5], [45]), ([6], [45]), ([7], [45]), ([8], [45]), ([9], [110]), ([10], [110])]
theorem uses_cases (c : Cmd) : (mget [] usesTab [c.kind] = [] ∧ (c.kind < 1 ∨ 10 < c.kind)) ∨ (mget [] usesTab [c.kind] = [119] ∧ (1 ≤ c.kind ∧ c.kind ≤ 10) ∧ useWord c = true ∧ useN c = false) ∨ (mget [] usesTab [c.kind] = [110] ∧ (1 ≤ c.kind ∧ c.kind ≤ 10) ∧ useWord c = false ∧ useN c = true ∧ c.kind ≠ 3) ∨ (mget [] usesTab [c.kind] = [45] ∧ (1 ≤ c.kind ∧ c.kind ≤ 10) ∧ useWord c = false ∧ useN c = false ∧ c.kind ≠ 3) := by
  unfold useWord useN
  generalize c.kind = k
  by_cases h : 1 ≤ k ∧ k ≤ 10
  · have h2 : k = 1 ∨ k = 2 ∨ k = 3 ∨ k = 4 ∨ k = 5 ∨ k = 6 ∨ k = 7 ∨ k = 8 ∨ k = 9 ∨ k = 10 := by omega
    rcases h2 with rfl | rfl | rfl | rfl | rfl | rfl | rfl | rfl | rfl | rfl <;> decide
  · left
    refine ⟨?_, by omega⟩
    have e : ∀ j : Int, 1 ≤ j → j ≤ 10 → ¬ [j] = [k] := fun j h1 h2 e => by
      simp only [List.cons.injEq, and_true] at e
      omega
    unfold usesTab
    simp only [mget, e 1 (by omega) (by omega), e 2 (by omega) (by omega), e 3 (by omega) (by omega), e 4 (by omega) (by omega), e 5 (by omega) (by omega), e 6 (by omega) (by omega), e 7 (by omega) (by omega), e 8 (by omega) (by omega), e 9 (by omega) (by omega), e 10 (by omega) (by omega), if_false]
theorem ccmdR_ca : callable Tryz.prog 29 = true := by kernel_rfl
def ccmdR_S : Spec := fun args K => ∃ (c : Cmd), args = [cmdV c] ∧ K (.int .i64 (checkCmd c))
noncomputable def ccmdR_lib : List (Nat × Spec) := [(33, isWordR_S)]
noncomputable def ccmdR_fns : List (Nat × FnI) := []
noncomputable def ccmdR_prims : List (Nat × PSpec) := []
theorem ccmdR_E : EnvOK ⟨Tryz.prog, tys, ccmdR_lib, ccmdR_fns, ccmdR_prims, []⟩ := env_ok mixed0 tys0 (.cons isWordR_ca isWordR_ok .nil) .nil .nil rfl
set_option maxHeartbeats 4000000 in
theorem ccmdR_ok : Pure Tryz.prog 29 ccmdR_S := by
  refine pure_by ccmdR_E 6 (fi := {fn := Tryz.f29, hooks := [2], draws := []}) ⟨Tryz.func29, by kernel_rfl, by kernel_rfl⟩ ?_
  rintro _ K ⟨c, rfl, hK⟩
  replace hK : ∀ r, r = .int .i64 (checkCmd c) → K r := fun r h => h ▸ hK
  have hu := uses_cases c
  repeat' (first | exact True.intro | refine ⟨_, LeL.refl _, ?_⟩ | refine ⟨_, _, _, LeL.refl _, ?_⟩ | (refine fun (b : Bool) hb => ?_; cases b <;> (first | exact absurd hb (by decide) | exact Bool.noConfusion (show true = false from hb) | exact Bool.noConfusion (show false = true from hb) | skip)) | (refine fun (hl : _ ≤ MAXL) => ?_) | refine And.intro (a := I64 _) ?_ ?_ | refine And.intro (a := _ ≤ 140737488355328) ?_ ?_ | refine ⟨_, ⟨rfl, rfl⟩, ?_⟩ | refine ⟨_, And.intro (a := I64 _) ?_ ⟨rfl, rfl⟩, ?_⟩ | refine ⟨_, _, ⟨rfl, rfl⟩, ?_⟩ | refine ⟨_, (fun _ => ⟨rfl, rfl⟩), ?_⟩ | refine And.intro (a := chkPend _ _ _ _ _ _) ?_ ?_ | refine And.intro (a := chkPast _ _ _ _ _ _ _ _) ?_ ?_ | refine ⟨⟨rfl, rfl⟩, ?_⟩ | refine And.intro (And.intro rfl rfl) ?_ | refine ⟨True.intro, ?_⟩ | refine ⟨_, ⟨_, rfl, ?_, rfl, rfl, rfl⟩, ?_⟩ | refine ⟨_, rfl, ?_, rfl, ?_⟩ | refine ⟨_, (fun _ => rfl), rfl, ?_⟩ | refine ⟨(fun _ => rfl), ?_⟩ | refine ⟨rfl, ?_⟩ | refine Opt.a ?_ | refine ⟨Bs, strV, ?_⟩ | refine ⟨_, rfl, rfl, rfl, ?_⟩ | fail)
  conv => whnf
  refine join_live [1] (σ := Bs) (fun u => [(3, .str u)]) (fun _ => [.box [.int .i64 c.kind, .str c.word, .int .i64 c.n]]) (fun u => u = mget [] usesTab [c.kind]) ?_
  conv => whnf
  refine ⟨?_, fun u hu1 => ?_⟩
  · repeat' (first | exact True.intro | refine ⟨_, LeL.refl _, ?_⟩ | refine ⟨_, _, _, LeL.refl _, ?_⟩ | (refine fun (b : Bool) hb => ?_; cases b <;> (first | exact absurd hb (by decide) | exact Bool.noConfusion (show true = false from hb) | exact Bool.noConfusion (show false = true from hb) | skip)) | (refine fun (hl : _ ≤ MAXL) => ?_) | refine And.intro (a := I64 _) ?_ ?_ | refine And.intro (a := _ ≤ 140737488355328) ?_ ?_ | refine ⟨_, ⟨rfl, rfl⟩, ?_⟩ | refine ⟨_, And.intro (a := I64 _) ?_ ⟨rfl, rfl⟩, ?_⟩ | refine ⟨_, _, ⟨rfl, rfl⟩, ?_⟩ | refine ⟨_, (fun _ => ⟨rfl, rfl⟩), ?_⟩ | refine And.intro (a := chkPend _ _ _ _ _ _) ?_ ?_ | refine And.intro (a := chkPast _ _ _ _ _ _ _ _) ?_ ?_ | refine ⟨⟨rfl, rfl⟩, ?_⟩ | refine And.intro (And.intro rfl rfl) ?_ | refine ⟨True.intro, ?_⟩ | refine ⟨_, ⟨_, rfl, ?_, rfl, rfl, rfl⟩, ?_⟩ | refine ⟨_, rfl, ?_, rfl, ?_⟩ | refine ⟨_, (fun _ => rfl), rfl, ?_⟩ | refine ⟨(fun _ => rfl), ?_⟩ | refine ⟨rfl, ?_⟩ | refine Opt.a ?_ | refine ⟨Bs, strV, ?_⟩ | fail)
    all_goals try rfl
    refine ⟨[], rfl, ?_⟩
    repeat' (first | exact True.intro | refine ⟨_, LeL.refl _, ?_⟩ | refine ⟨_, _, _, LeL.refl _, ?_⟩ | (refine fun (b : Bool) hb => ?_; cases b <;> (first | exact absurd hb (by decide) | exact Bool.noConfusion (show true = false from hb) | exact Bool.noConfusion (show false = true from hb) | skip)) | (refine fun (hl : _ ≤ MAXL) => ?_) | refine And.intro (a := I64 _) ?_ ?_ | refine And.intro (a := _ ≤ 140737488355328) ?_ ?_ | refine ⟨_, ⟨rfl, rfl⟩, ?_⟩ | refine ⟨_, And.intro (a := I64 _) ?_ ⟨rfl, rfl⟩, ?_⟩ | refine ⟨_, _, ⟨rfl, rfl⟩, ?_⟩ | refine ⟨_, (fun _ => ⟨rfl, rfl⟩), ?_⟩ | refine And.intro (a := chkPend _ _ _ _ _ _) ?_ ?_ | refine And.intro (a := chkPast _ _ _ _ _ _ _ _) ?_ ?_ | refine ⟨⟨rfl, rfl⟩, ?_⟩ | refine And.intro (And.intro rfl rfl) ?_ | refine ⟨True.intro, ?_⟩ | refine ⟨_, ⟨_, rfl, ?_, rfl, rfl, rfl⟩, ?_⟩ | refine ⟨_, rfl, ?_, rfl, ?_⟩ | refine ⟨_, (fun _ => rfl), rfl, ?_⟩ | refine ⟨(fun _ => rfl), ?_⟩ | refine ⟨rfl, ?_⟩ | refine Opt.a ?_ | fail)
    exact ⟨_, (by (refine wk_auto ?_; refine Sel4.mk rfl rfl ?_ ?_ <;> (repeat' (first | exact True.intro | exact rfl | exact Or.inl rfl | exact Or.inr rfl | refine And.intro ?_ ?_ | fail)))), rfl⟩
  rw [← hu1] at hu
  clear hu1
  unfold checkCmd at hK
  rcases hu with ⟨rfl, h1⟩ | ⟨rfl, h1, h2, h3⟩ | ⟨rfl, h1, h2, h3, h4⟩ | ⟨rfl, h1, h2, h3, h4⟩
  · repeat' (first | exact True.intro | refine ⟨_, LeL.refl _, ?_⟩ | refine ⟨_, _, _, LeL.refl _, ?_⟩ | (refine fun (b : Bool) hb => ?_; cases b <;> (first | exact absurd hb (by decide) | exact Bool.noConfusion (show true = false from hb) | exact Bool.noConfusion (show false = true from hb) | skip)) | (refine fun (hl : _ ≤ MAXL) => ?_) | refine And.intro (a := I64 _) ?_ ?_ | refine And.intro (a := _ ≤ 140737488355328) ?_ ?_ | refine ⟨_, ⟨rfl, rfl⟩, ?_⟩ | refine ⟨_, And.intro (a := I64 _) ?_ ⟨rfl, rfl⟩, ?_⟩ | refine ⟨_, _, ⟨rfl, rfl⟩, ?_⟩ | refine ⟨_, (fun _ => ⟨rfl, rfl⟩), ?_⟩ | refine And.intro (a := chkPend _ _ _ _ _ _) ?_ ?_ | refine And.intro (a := chkPast _ _ _ _ _ _ _ _) ?_ ?_ | refine ⟨⟨rfl, rfl⟩, ?_⟩ | refine And.intro (And.intro rfl rfl) ?_ | refine ⟨True.intro, ?_⟩ | refine ⟨_, ⟨_, rfl, ?_, rfl, rfl, rfl⟩, ?_⟩ | refine ⟨_, rfl, ?_, rfl, ?_⟩ | refine ⟨_, (fun _ => rfl), rfl, ?_⟩ | refine ⟨(fun _ => rfl), ?_⟩ | refine ⟨rfl, ?_⟩ | refine Opt.a ?_ | fail)
    refine hK _ ?_
    rw [if_pos h1]
  all_goals
    have h1' : ¬ (c.kind < 1 ∨ 10 < c.kind) := by omega
  · simp only [h1', h2, h3, if_false] at hK
    repeat' (first | exact True.intro | refine ⟨_, LeL.refl _, ?_⟩ | refine ⟨_, _, _, LeL.refl _, ?_⟩ | (refine fun (b : Bool) hb => ?_; cases b <;> (first | exact absurd hb (by decide) | exact Bool.noConfusion (show true = false from hb) | exact Bool.noConfusion (show false = true from hb) | skip)) | (refine fun (hl : _ ≤ MAXL) => ?_) | refine And.intro (a := I64 _) ?_ ?_ | refine And.intro (a := _ ≤ 140737488355328) ?_ ?_ | refine ⟨_, ⟨rfl, rfl⟩, ?_⟩ | refine ⟨_, And.intro (a := I64 _) ?_ ⟨rfl, rfl⟩, ?_⟩ | refine ⟨_, _, ⟨rfl, rfl⟩, ?_⟩ | refine ⟨_, (fun _ => ⟨rfl, rfl⟩), ?_⟩ | refine And.intro (a := chkPend _ _ _ _ _ _) ?_ ?_ | refine And.intro (a := chkPast _ _ _ _ _ _ _ _) ?_ ?_ | refine ⟨⟨rfl, rfl⟩, ?_⟩ | refine And.intro (And.intro rfl rfl) ?_ | refine ⟨True.intro, ?_⟩ | refine ⟨_, ⟨_, rfl, ?_, rfl, rfl, rfl⟩, ?_⟩ | refine ⟨_, rfl, ?_, rfl, ?_⟩ | refine ⟨_, (fun _ => rfl), rfl, ?_⟩ | refine ⟨(fun _ => rfl), ?_⟩ | refine ⟨rfl, ?_⟩ | refine Opt.a ?_ | fail)
    · refine ⟨c.word, rfl, ?_⟩
      repeat' (first | exact True.intro | refine ⟨_, LeL.refl _, ?_⟩ | refine ⟨_, _, _, LeL.refl _, ?_⟩ | (refine fun (b : Bool) hb => ?_; cases b <;> (first | exact absurd hb (by decide) | exact Bool.noConfusion (show true = false from hb) | exact Bool.noConfusion (show false = true from hb) | skip)) | (refine fun (hl : _ ≤ MAXL) => ?_) | refine And.intro (a := I64 _) ?_ ?_ | refine And.intro (a := _ ≤ 140737488355328) ?_ ?_ | refine ⟨_, ⟨rfl, rfl⟩, ?_⟩ | refine ⟨_, And.intro (a := I64 _) ?_ ⟨rfl, rfl⟩, ?_⟩ | refine ⟨_, _, ⟨rfl, rfl⟩, ?_⟩ | refine ⟨_, (fun _ => ⟨rfl, rfl⟩), ?_⟩ | refine And.intro (a := chkPend _ _ _ _ _ _) ?_ ?_ | refine And.intro (a := chkPast _ _ _ _ _ _ _ _) ?_ ?_ | refine ⟨⟨rfl, rfl⟩, ?_⟩ | refine And.intro (And.intro rfl rfl) ?_ | refine ⟨True.intro, ?_⟩ | refine ⟨_, ⟨_, rfl, ?_, rfl, rfl, rfl⟩, ?_⟩ | refine ⟨_, rfl, ?_, rfl, ?_⟩ | refine ⟨_, (fun _ => rfl), rfl, ?_⟩ | refine ⟨(fun _ => rfl), ?_⟩ | refine ⟨rfl, ?_⟩ | refine Opt.a ?_ | fail)
      all_goals (refine hK _ ?_; simp_all; try omega)
    · refine hK _ ?_
      simp_all
  · simp only [h1', h2, h3, if_false] at hK
    repeat' (first | exact True.intro | refine ⟨_, LeL.refl _, ?_⟩ | refine ⟨_, _, _, LeL.refl _, ?_⟩ | (refine fun (b : Bool) hb => ?_; cases b <;> (first | exact absurd hb (by decide) | exact Bool.noConfusion (show true = false from hb) | exact Bool.noConfusion (show false = true from hb) | skip)) | (refine fun (hl : _ ≤ MAXL) => ?_) | refine And.intro (a := I64 _) ?_ ?_ | refine And.intro (a := _ ≤ 140737488355328) ?_ ?_ | refine ⟨_, ⟨rfl, rfl⟩, ?_⟩ | refine ⟨_, And.intro (a := I64 _) ?_ ⟨rfl, rfl⟩, ?_⟩ | refine ⟨_, _, ⟨rfl, rfl⟩, ?_⟩ | refine ⟨_, (fun _ => ⟨rfl, rfl⟩), ?_⟩ | refine And.intro (a := chkPend _ _ _ _ _ _) ?_ ?_ | refine And.intro (a := chkPast _ _ _ _ _ _ _ _) ?_ ?_ | refine ⟨⟨rfl, rfl⟩, ?_⟩ | refine And.intro (And.intro rfl rfl) ?_ | refine ⟨True.intro, ?_⟩ | refine ⟨_, ⟨_, rfl, ?_, rfl, rfl, rfl⟩, ?_⟩ | refine ⟨_, rfl, ?_, rfl, ?_⟩ | refine ⟨_, (fun _ => rfl), rfl, ?_⟩ | refine ⟨(fun _ => rfl), ?_⟩ | refine ⟨rfl, ?_⟩ | refine Opt.a ?_ | fail)
    all_goals (refine hK _ ?_; simp_all; try omega)
  · simp only [h1', h2, h3, if_false] at hK
    repeat' (first | exact True.intro | refine ⟨_, LeL.refl _, ?_⟩ | refine ⟨_, _, _, LeL.refl _, ?_⟩ | (refine fun (b : Bool) hb => ?_; cases b <;> (first | exact absurd hb (by decide) | exact Bool.noConfusion (show true = false from hb) | exact Bool.noConfusion (show false = true from hb) | skip)) | (refine fun (hl : _ ≤ MAXL) => ?_) | refine And.intro (a := I64 _) ?_ ?_ | refine And.intro (a := _ ≤ 140737488355328) ?_ ?_ | refine ⟨_, ⟨rfl, rfl⟩, ?_⟩ | refine ⟨_, And.intro (a := I64 _) ?_ ⟨rfl, rfl⟩, ?_⟩ | refine ⟨_, _, ⟨rfl, rfl⟩, ?_⟩ | refine ⟨_, (fun _ => ⟨rfl, rfl⟩), ?_⟩ | refine And.intro (a := chkPend _ _ _ _ _ _) ?_ ?_ | refine And.intro (a := chkPast _ _ _ _ _ _ _ _) ?_ ?_ | refine ⟨⟨rfl, rfl⟩, ?_⟩ | refine And.intro (And.intro rfl rfl) ?_ | refine ⟨True.intro, ?_⟩ | refine ⟨_, ⟨_, rfl, ?_, rfl, rfl, rfl⟩, ?_⟩ | refine ⟨_, rfl, ?_, rfl, ?_⟩ | refine ⟨_, (fun _ => rfl), rfl, ?_⟩ | refine ⟨(fun _ => rfl), ?_⟩ | refine ⟨rfl, ?_⟩ | refine Opt.a ?_ | fail)
    all_goals (refine hK _ ?_; simp_all; done)
end Gv
namespace Gv
variable [Glob] [Laid]
theorem checkJR_ca : callable Tryz.prog 73 = true := by kernel_rfl
def checkJR_S : Spec := fun args K => ∃ (h : Int) (c : Cmd), args = [.int .i64 h, cmdV c] ∧ K (.int .i64 (checkJoin h c))
noncomputable def checkJR_lib : List (Nat × Spec) := [(29, ccmdR_S)]
noncomputable def checkJR_fns : List (Nat × FnI) := []
noncomputable def checkJR_prims : List (Nat × PSpec) := []
theorem checkJR_E : EnvOK ⟨Tryz.prog, tys, checkJR_lib, checkJR_fns, checkJR_prims, [(48, [true, false, true])]⟩ := env_ok mixed0 tys0 (.cons ccmdR_ca ccmdR_ok .nil) .nil .nil (by kernel_rfl)
set_option maxHeartbeats 4000000 in
theorem checkJR_ok : Pure Tryz.prog 73 checkJR_S := by
  refine pure_by checkJR_E 6 (fi := {fn := Tryz.f73, hooks := [], draws := []}) ⟨Tryz.func73, by kernel_rfl, by kernel_rfl⟩ ?_
  rintro _ K ⟨h, c, rfl, hK⟩
  replace hK : ∀ r, r = .int .i64 (checkJoin h c) → K r := fun r h => h ▸ hK
  obtain ⟨ck, cw, cn⟩ := c
  obtain ⟨q, hq⟩ : ∃ q, checkCmd ⟨ck, cw, cn⟩ = q := ⟨_, rfl⟩
  unfold checkJoin at hK
  rw [hq] at hK
  repeat' (first | exact True.intro | refine ⟨_, LeL.refl _, ?_⟩ | refine ⟨_, _, _, LeL.refl _, ?_⟩ | (refine fun (b : Bool) hb => ?_; cases b <;> (first | exact absurd hb (by decide) | exact Bool.noConfusion (show true = false from hb) | exact Bool.noConfusion (show false = true from hb) | skip)) | (refine fun (hl : _ ≤ MAXL) => ?_) | refine And.intro (a := I64 _) ?_ ?_ | refine And.intro (a := _ ≤ 140737488355328) ?_ ?_ | refine ⟨_, ⟨rfl, rfl⟩, ?_⟩ | refine ⟨_, And.intro (a := I64 _) ?_ ⟨rfl, rfl⟩, ?_⟩ | refine ⟨_, _, ⟨rfl, rfl⟩, ?_⟩ | refine ⟨_, (fun _ => ⟨rfl, rfl⟩), ?_⟩ | refine And.intro (a := chkPend _ _ _ _ _ _) ?_ ?_ | refine And.intro (a := chkPast _ _ _ _ _ _ _ _) ?_ ?_ | refine ⟨⟨rfl, rfl⟩, ?_⟩ | refine And.intro (And.intro rfl rfl) ?_ | refine ⟨True.intro, ?_⟩ | refine ⟨_, ⟨_, rfl, ?_, rfl, rfl, rfl⟩, ?_⟩ | refine ⟨_, rfl, ?_, rfl, ?_⟩ | refine ⟨_, (fun _ => rfl), rfl, ?_⟩ | refine ⟨(fun _ => rfl), ?_⟩ | refine ⟨rfl, ?_⟩ | refine Opt.a ?_ | fail)
  · exfalso
    have h3 : h = 4 := by
      have h3 : (!decide (h = 4)) = false := by assumption
      simpa using h3
    exact absurd h3 (of_decide_eq_false (by assumption : decide (h = 4) = false))
  · have h1 : ¬ h < 1 := of_decide_eq_false (by assumption)
    have h2 : ¬ 4 < h := of_decide_eq_false (by assumption)
    have h3 : h = 4 := by
      have h3 : (!decide (h = 4)) = false := by assumption
      simpa using h3
    refine ⟨⟨ck, cw, cn⟩, rfl, ?_⟩
    rw [hq]
    repeat' (first | exact True.intro | refine ⟨_, LeL.refl _, ?_⟩ | refine ⟨_, _, _, LeL.refl _, ?_⟩ | (refine fun (b : Bool) hb => ?_; cases b <;> (first | exact absurd hb (by decide) | exact Bool.noConfusion (show true = false from hb) | exact Bool.noConfusion (show false = true from hb) | skip)) | (refine fun (hl : _ ≤ MAXL) => ?_) | refine And.intro (a := I64 _) ?_ ?_ | refine And.intro (a := _ ≤ 140737488355328) ?_ ?_ | refine ⟨_, ⟨rfl, rfl⟩, ?_⟩ | refine ⟨_, And.intro (a := I64 _) ?_ ⟨rfl, rfl⟩, ?_⟩ | refine ⟨_, _, ⟨rfl, rfl⟩, ?_⟩ | refine ⟨_, (fun _ => ⟨rfl, rfl⟩), ?_⟩ | refine And.intro (a := chkPend _ _ _ _ _ _) ?_ ?_ | refine And.intro (a := chkPast _ _ _ _ _ _ _ _) ?_ ?_ | refine ⟨⟨rfl, rfl⟩, ?_⟩ | refine And.intro (And.intro rfl rfl) ?_ | refine ⟨True.intro, ?_⟩ | refine ⟨_, ⟨_, rfl, ?_, rfl, rfl, rfl⟩, ?_⟩ | refine ⟨_, rfl, ?_, rfl, ?_⟩ | refine ⟨_, (fun _ => rfl), rfl, ?_⟩ | refine ⟨(fun _ => rfl), ?_⟩ | refine ⟨rfl, ?_⟩ | refine Opt.a ?_ | fail)
    refine hK _ ?_
    rw [if_neg (by omega), if_neg (by omega)]
  · have h1 : ¬ h < 1 := of_decide_eq_false (by assumption)
    have h2 : ¬ 4 < h := of_decide_eq_false (by assumption)
    have h3 : ¬ h = 4 := by
      have h3 : (!decide (h = 4)) = true := by assumption
      simpa using h3
    have hz : (⟨ck, cw, cn⟩ : Cmd) = zCmd := by
      unfold zCmd
      grind
    conv => whnf
    refine hK _ ?_
    rw [if_neg (by omega), if_pos h3, if_neg (fun e => e hz)]
  · exfalso
    have h3 : ¬ h = 4 := by
      have h3 : (!decide (h = 4)) = true := by assumption
      simpa using h3
    exact absurd (of_decide_eq_true (by assumption : decide (h = 4) = true)) h3
  · have h1 : ¬ h < 1 := of_decide_eq_false (by assumption)
    have h2 : ¬ 4 < h := of_decide_eq_false (by assumption)
    have h3 : ¬ h = 4 := by
      have h3 : (!decide (h = 4)) = true := by assumption
      simpa using h3
    have hz : (⟨ck, cw, cn⟩ : Cmd) ≠ zCmd := by
      unfold zCmd
      grind
    conv => whnf
    refine hK _ ?_
    rw [if_neg (by omega), if_pos h3, if_pos hz]
  · have h2 : 4 < h := of_decide_eq_true (by assumption)
    conv => whnf
    refine hK _ ?_
    rw [if_pos (by omega)]
  · have h2 : h < 1 := of_decide_eq_true (by assumption)
    conv => whnf
    refine hK _ ?_
    rw [if_pos (by omega)]
end Gv
namespace Gv
variable [Glob] [Laid]
theorem containsI_ca : callable Tryz.prog 63 = true := by kernel_rfl
def containsI_S : Spec := fun args K => ∃ (l : List Int) (c : Int), args = [.sl intV l, .int .i64 c] ∧ K (.bool (decide (c ∈ l)))
noncomputable def containsI_lib : List (Nat × Spec) := []
noncomputable def containsI_fns : List (Nat × FnI) := [(132, {fn := Tryz.f132, hooks := [], draws := []})]
noncomputable def containsI_prims : List (Nat × PSpec) := []
theorem containsI_E : EnvOK ⟨Tryz.prog, tys, containsI_lib, containsI_fns, containsI_prims, []⟩ := env_ok mixed0 tys0 .nil (.cons (by kernel_rfl) ⟨Tryz.func132, by kernel_rfl, by kernel_rfl⟩ .nil) .nil rfl
set_option maxHeartbeats 4000000 in
theorem containsI_ok : Pure Tryz.prog 63 containsI_S := by
  refine pure_by containsI_E 6 (fi := {fn := Tryz.f63, hooks := [], draws := []}) ⟨Tryz.func63, by kernel_rfl, by kernel_rfl⟩ ?_
  rintro _ K ⟨l, c, rfl, hK⟩
  replace hK : ∀ r, r = .bool (decide (c ∈ l)) → K r := fun r h => h ▸ hK
  refine fun (hl : _ ≤ MAXL) => ?_
  conv => whnf
  refine loop_live [0, 1, 7] (σ := Nat) (fun i => [(8, .int .i64 i)]) (fun i => []) (fun i => i ≤ l.length ∧ c ∉ l.take i) (fun i => l.length - i) 0 ?_
  conv => whnf
  refine ⟨(by (refine wk_auto ?_; refine Sel4.mk rfl rfl ?_ ?_ <;> (repeat' (first | exact True.intro | exact rfl | exact Or.inl rfl | exact Or.inr rfl | refine And.intro ?_ ?_ | fail)))), ⟨Nat.zero_le _, by simp⟩, fun i hi => ?_⟩
  obtain ⟨hi, hc⟩ := hi
  repeat' (first | exact True.intro | refine ⟨_, LeL.refl _, ?_⟩ | refine ⟨_, _, _, LeL.refl _, ?_⟩ | (refine fun (b : Bool) hb => ?_; cases b <;> (first | exact absurd hb (by decide) | exact Bool.noConfusion (show true = false from hb) | exact Bool.noConfusion (show false = true from hb) | skip)) | (refine fun (hl : _ ≤ MAXL) => ?_) | refine And.intro (a := I64 _) ?_ ?_ | refine And.intro (a := _ ≤ 140737488355328) ?_ ?_ | refine ⟨_, ⟨rfl, rfl⟩, ?_⟩ | refine ⟨_, And.intro (a := I64 _) ?_ ⟨rfl, rfl⟩, ?_⟩ | refine ⟨_, _, ⟨rfl, rfl⟩, ?_⟩ | refine ⟨_, (fun _ => ⟨rfl, rfl⟩), ?_⟩ | refine And.intro (a := chkPend _ _ _ _ _ _) ?_ ?_ | refine And.intro (a := chkPast _ _ _ _ _ _ _ _) ?_ ?_ | refine ⟨⟨rfl, rfl⟩, ?_⟩ | refine And.intro (And.intro rfl rfl) ?_ | refine ⟨True.intro, ?_⟩ | refine ⟨_, ⟨_, rfl, ?_, rfl, rfl, rfl⟩, ?_⟩ | refine ⟨_, rfl, ?_, rfl, ?_⟩ | refine ⟨_, (fun _ => rfl), rfl, ?_⟩ | refine ⟨(fun _ => rfl), ?_⟩ | refine ⟨rfl, ?_⟩ | refine Opt.a ?_ | fail)
  · refine hK _ ?_
    have e : l.take i = l := List.take_of_length_le (by grind)
    rw [e] at hc
    simp [hc]
  · grind
  · (first | omega | (unfold I64; omega) | (simp only [List.length_append, List.length_map, List.length_cons, List.length_nil, Nat.mul_one, Int.ofNat_eq_natCast] at *; omega) | (dsimp only at *; omega) | (unfold I64; dsimp only at *; omega) | (unfold I64; grind) | grind)
  · have hi2 : i < l.length := by grind
    refine ⟨i + 1, (by (refine wk_auto ?_; refine Sel4.mk rfl rfl ?_ ?_ <;> (repeat' (first | exact True.intro | exact rfl | exact Or.inl rfl | exact Or.inr rfl | refine And.intro ?_ ?_ | fail)))), ⟨by grind, ?_⟩, by grind⟩
    rw [List.take_succ_eq_append_getElem hi2]
    simp only [List.mem_append, List.mem_singleton, not_or]
    refine ⟨hc, fun e => ?_⟩
    subst e
    simp at *
  · have hi2 : i < l.length := by grind
    refine hK _ ?_
    have e : c = l[i] := by grind
    have h1 : decide (c ∈ l) = true := by
      rw [e]
      simp
    have h2 : decide ((0 : Int) ≤ (i : Int)) = true := by simp
    rw [h1, h2]
end Gv
namespace Gv
variable [Glob] [Laid]
theorem isEachR_ca : callable Tryz.prog 35 = true := by kernel_rfl
def isEachR_S : Spec := fun args K => ∃ (c : Cmd), args = [cmdV c] ∧ K (.bool (Gp.each c))
noncomputable def isEachR_lib : List (Nat × Spec) := [(63, containsI_S)]
noncomputable def isEachR_fns : List (Nat × FnI) := []
noncomputable def isEachR_prims : List (Nat × PSpec) := []
theorem isEachR_E : EnvOK ⟨Tryz.prog, tys, isEachR_lib, isEachR_fns, isEachR_prims, []⟩ := env_ok mixed0 tys0 (.cons containsI_ca containsI_ok .nil) .nil .nil rfl
set_option maxHeartbeats 4000000 in
theorem isEachR_ok : Pure Tryz.prog 35 isEachR_S := by
  refine pure_by isEachR_E 6 (fi := {fn := Tryz.f35, hooks := [], draws := []}) ⟨Tryz.func35, by kernel_rfl, by kernel_rfl⟩ ?_
  rintro _ K ⟨c, rfl, hK⟩
  replace hK : ∀ r, r = .bool (Gp.each c) → K r := fun r h => h ▸ hK
  repeat' (first | exact True.intro | refine ⟨_, LeL.refl _, ?_⟩ | refine ⟨_, _, _, LeL.refl _, ?_⟩ | (refine fun (b : Bool) hb => ?_; cases b <;> (first | exact absurd hb (by decide) | exact Bool.noConfusion (show true = false from hb) | exact Bool.noConfusion (show false = true from hb) | skip)) | (refine fun (hl : _ ≤ MAXL) => ?_) | refine And.intro (a := I64 _) ?_ ?_ | refine And.intro (a := _ ≤ 140737488355328) ?_ ?_ | refine ⟨_, ⟨rfl, rfl⟩, ?_⟩ | refine ⟨_, And.intro (a := I64 _) ?_ ⟨rfl, rfl⟩, ?_⟩ | refine ⟨_, _, ⟨rfl, rfl⟩, ?_⟩ | refine ⟨_, (fun _ => ⟨rfl, rfl⟩), ?_⟩ | refine And.intro (a := chkPend _ _ _ _ _ _) ?_ ?_ | refine And.intro (a := chkPast _ _ _ _ _ _ _ _) ?_ ?_ | refine ⟨⟨rfl, rfl⟩, ?_⟩ | refine And.intro (And.intro rfl rfl) ?_ | refine ⟨True.intro, ?_⟩ | refine ⟨_, ⟨_, rfl, ?_, rfl, rfl, rfl⟩, ?_⟩ | refine ⟨_, rfl, ?_, rfl, ?_⟩ | refine ⟨_, (fun _ => rfl), rfl, ?_⟩ | refine ⟨(fun _ => rfl), ?_⟩ | refine ⟨rfl, ?_⟩ | refine Opt.a ?_ | fail)
  refine ⟨Int, intV, [1, 2, 3, 4, 5], LeL.refl _, ?_⟩
  refine ⟨[1, 2, 3, 4, 5], c.kind, rfl, ?_⟩
  refine hK _ ?_
  unfold Gp.each
  congr 1
  simp only [List.mem_cons, List.not_mem_nil, or_false]
  grind
end Gv
namespace Gv
variable [Glob] [Laid]
theorem numK_of {n : Nat} {k : Nat → Prop} (h : k n) : numK n k := by
  unfold numK
  split <;> exact h
theorem pushK_of : ∀ (l : Rows) (n : Nat) (y : Row) (k : Nat → Rows → Prop), k (n + l.length) (l ++ [y]) → pushK n l y k
  | [], n, y, k, h => numK_of h
  | x :: r, n, y, k, h => pushK_of r (n + 1) y _ (by
      show k (n + 1 + r.length) (x :: (r ++ [y]))
      rw [show n + 1 + r.length = n + (x :: r).length by simp; omega]
      exact h)
theorem setK_of : ∀ (l : Rows) (i : Nat) (y : Row) (k : Rows → Prop), i < l.length → k (l.set i y) → setK l i y k
  | x :: r, 0, y, k, _, h => h
  | x :: r, n + 1, y, k, hl, h => setK_of r n y _ (by simpa using hl) h
  | [], n, y, k, hl, h => by simp at hl
theorem mget_mput {α : Type} {z a : α} {ks ks' : List Int} : ∀ ents : List (List Int × α), mget z (mput ents ks a) ks' = if ks = ks' then a else mget z ents ks'
  | [] => by simp [mput, mget]
  | (k, b) :: r => by
    have ih := mget_mput (z := z) (a := a) (ks := ks) (ks' := ks') r
    unfold mput
    by_cases h : k = ks
    · subst h
      simp only [if_true, mget]
      split <;> rfl
    · rw [if_neg h]
      unfold mget
      rw [ih]
      by_cases h2 : k = ks'
      · subst h2
        rw [if_pos rfl, if_neg (fun e => h e.symm), if_pos rfl]
      · rw [if_neg h2, if_neg h2]
def hfA (sel : Nat → Bool) (k : Int) : Int := if k = 6 ∧ sel 1 = true then 2 else if k = 8 ∧ sel 2 = true then 3 else if k = 7 ∧ sel 3 = true then 4 else if k = 9 ∧ sel 4 = true then 4 else if k = 10 ∧ sel 5 = true then 4 else 0
def hfB (sel : Nat → Bool) (b : Int) : Int := if b = 1 ∧ sel 11 = true then 1 else 0
def hfF (c : Cmd) : Int := hfA (fun _ => true) c.kind
def hfG (c : Cmd) : Int := hfB (fun _ => true) (b2i (Gp.each c))
theorem hfI (c : Cmd) : I64 (hfF c + hfG c) := by
  unfold I64 hfF hfG hfA hfB
  grind
theorem hf_eq {c : Cmd} (h : 1 ≤ c.kind ∧ c.kind ≤ 10) : hfF c + hfG c = howFor c := by
  have he : b2i (Gp.each c) = if c.kind ≤ 5 then 1 else 0 := by
    unfold Gp.each
    by_cases h5 : c.kind ≤ 5
    · rw [if_pos h5, decide_eq_true h5, decide_eq_true h.1]
      rfl
    · rw [if_neg h5, decide_eq_false h5, decide_eq_true h.1]
      rfl
  unfold hfF hfG hfA hfB howFor
  rw [he]
  have h2 : c.kind = 1 ∨ c.kind = 2 ∨ c.kind = 3 ∨ c.kind = 4 ∨ c.kind = 5 ∨ c.kind = 6 ∨ c.kind = 7 ∨ c.kind = 8 ∨ c.kind = 9 ∨ c.kind = 10 := by omega
  rcases h2 with h | h | h | h | h | h | h | h | h | h <;> rw [h] <;> rfl
structure HI (c : Cmd) (sel : Nat → Bool) (L : VSlots) (rows : Rows) : Prop where
  b1 : look L 1 = some (.ptr 0 0 0)
  b2 : nth rows 0 = some (.box (cmdV c).cells)
  a : sel 0 = true → ∃ ra ents, look L 3 = some (.map ra) ∧ nth rows ra = some (.mp (α := Int) 3 3 .int intV ents) ∧ (∀ k, mget 0 ents [k] = hfA sel k) ∧ (sel 6 = true → look L 4 = some (.map ra))
  b : sel 10 = true → ∃ rb ents, look L 8 = some (.map rb) ∧ nth rows rb = some (.mp (α := Int) 4 3 .bool intV ents) ∧ (∀ k, mget 0 ents [k] = hfB sel k) ∧ (sel 12 = true → look L 9 = some (.map rb))
  d6 : sel 6 = true → sel 0 = true ∧ sel 1 = true ∧ sel 2 = true ∧ sel 3 = true ∧ sel 4 = true ∧ sel 5 = true
  d12 : sel 12 = true → sel 10 = true ∧ sel 11 = true
  e0 : ∀ j, 1 ≤ j → j ≤ 6 → sel j = true → sel 0 = true
  e10 : ∀ j, 11 ≤ j → j ≤ 12 → sel j = true → sel 10 = true
  t7 : sel 7 = true → look L 5 = some (.ptr 0 0 0)
  t8 : sel 8 = true → look L 6 = some (.int .i64 c.kind)
  t9 : sel 9 = true → look L 7 = some (.int .i64 (hfF c))
  t13 : sel 13 = true → look L 10 = some (cmdV c)
  t14 : sel 14 = true → look L 11 = some (.bool (Gp.each c))
  t15 : sel 15 = true → look L 12 = some (.int .i64 (hfG c))
  t16 : sel 16 = true → look L 13 = some (.int .i64 (hfF c + hfG c))
  t17 : sel 17 = true → look L 2 = some (.int .i64 (hfF c + hfG c))
theorem nth_set_self {rows : Rows} {i : Nat} {x y : Row} (h : nth rows i = some x) : i < rows.length ∧ nth (rows.set i y) i = some y := by
  rw [nth_eq] at h
  have hl := (List.getElem?_eq_some_iff.1 h).1
  exact ⟨hl, by rw [nth_eq]; simp [hl]⟩
theorem nth_set_other {rows : Rows} {i j : Nat} {y x : Row} (h : nth rows j = some x) (hn : i ≠ j) : nth (rows.set i y) j = some x := by
  rw [nth_eq] at h ⊢
  rw [List.getElem?_set_ne hn]
  exact h
theorem nth_add {rows : Rows} {j : Nat} {y x : Row} (h : nth rows j = some x) : nth (rows ++ [y]) j = some x := by
  rw [nth_eq] at h ⊢
  rw [List.getElem?_append_left (List.getElem?_eq_some_iff.1 h).1]
  exact h
theorem nth_new {rows : Rows} {y : Row} : nth (rows ++ [y]) (0 + rows.length) = some y := by
  rw [nth_eq]
  simp
theorem evO_of {L : VSlots} {t : Nat} {v : V} {k : V → Prop} (h : look L t = some v) (hk : k v) : evO L (.tmp t) k := by
  show (match look L t with | some v => k v | none => False)
  rw [h]
  exact hk
/-- A new map. -/
theorem mk_of {rows : Rows} {y : Row} {k : Nat → Rows → Prop} (h : k (0 + rows.length) (rows ++ [y])) : pushK 0 rows y k := pushK_of rows 0 y k h
theorem hi_a {c : Cmd} {sel : Nat → Bool} {L : VSlots} {rows : Rows} {i : Nat} {ra : Nat} {ents : List (List Int × Int)} {k v : Int} (I : HI c sel L rows) (hs : sel i = false) (s0 : sel 0 = true) (hi : i = 1 ∧ k = 6 ∧ v = 2 ∨ i = 2 ∧ k = 8 ∧ v = 3 ∨ i = 3 ∧ k = 7 ∧ v = 4 ∨ i = 4 ∧ k = 9 ∧ v = 4 ∨ i = 5 ∧ k = 10 ∧ v = 4) (h1 : look L 3 = some (.map ra)) (h2 : nth rows ra = some (.mp (α := Int) 3 3 .int intV ents)) (h3 : ∀ k, mget 0 ents [k] = hfA sel k) (h4 : sel 6 = true → look L 4 = some (.map ra)) : HI c (setF sel i) L (rows.set ra (.mp (α := Int) 3 3 .int intV (mput ents [k] v))) := by
  have h0 : ra ≠ 0 := fun e => by subst e; rw [I.b2] at h2; cases h2
  have hs2 : ∀ j, j ≠ i → setF sel i j = sel j := fun j hj => by
    unfold setF
    have : Nat.beq j i = false := by
      cases hb : Nat.beq j i with
      | false => rfl
      | true => exact absurd (Nat.eq_of_beq_eq_true hb) hj
    rw [this]
    rfl
  have hi5 : 1 ≤ i ∧ i ≤ 5 := by omega
  refine ⟨I.b1, nth_set_other I.b2 h0, fun _ => ⟨ra, _, h1, (nth_set_self h2).2, fun k' => ?_, fun h => h4 (by rwa [hs2 6 (by omega)] at h)⟩, fun h => ?_, fun h => ?_, fun h => ?_, fun j j1 j2 h => ?_, fun j j1 j2 h => ?_, fun h => I.t7 ?_, fun h => I.t8 ?_, fun h => I.t9 ?_, fun h => I.t13 ?_, fun h => I.t14 ?_, fun h => I.t15 ?_, fun h => I.t16 ?_, fun h => I.t17 ?_⟩
  · rw [mget_mput, h3]
    have e : ([k] = [k']) = (k = k') := by simp
    simp only [e]
    unfold hfA
    rcases hi with ⟨rfl, rfl, rfl⟩ | ⟨rfl, rfl, rfl⟩ | ⟨rfl, rfl, rfl⟩ | ⟨rfl, rfl, rfl⟩ | ⟨rfl, rfl, rfl⟩
    · rw [setF_eq, hs2 2 (by decide), hs2 3 (by decide), hs2 4 (by decide), hs2 5 (by decide)]; grind
    · rw [setF_eq, hs2 1 (by decide), hs2 3 (by decide), hs2 4 (by decide), hs2 5 (by decide)]; grind
    · rw [setF_eq, hs2 1 (by decide), hs2 2 (by decide), hs2 4 (by decide), hs2 5 (by decide)]; grind
    · rw [setF_eq, hs2 1 (by decide), hs2 2 (by decide), hs2 3 (by decide), hs2 5 (by decide)]; grind
    · rw [setF_eq, hs2 1 (by decide), hs2 2 (by decide), hs2 3 (by decide), hs2 4 (by decide)]; grind
  · rw [hs2 10 (by omega)] at h
    obtain ⟨rb, eb, g1, g2, g3, g4⟩ := I.b h
    refine ⟨rb, eb, g1, nth_set_other g2 (fun e => by subst e; rw [h2] at g2; cases g2), fun k' => ?_, fun h => g4 (by rwa [hs2 12 (by omega)] at h)⟩
    rw [g3]
    unfold hfB
    rw [hs2 11 (by omega)]
  · rw [hs2 6 (by omega)] at h
    obtain ⟨g0, g1, g2, g3, g4, g5⟩ := I.d6 h
    exact ⟨setF_ne g0, setF_ne g1, setF_ne g2, setF_ne g3, setF_ne g4, setF_ne g5⟩
  · rw [hs2 12 (by omega)] at h
    exact ⟨setF_ne (I.d12 h).1, setF_ne (I.d12 h).2⟩
  · rcases setF_inv h with rfl | h
    · exact setF_ne (s0 : sel 0 = true)
    · exact setF_ne (I.e0 j j1 j2 h)
  · rw [hs2 j (by omega)] at h
    exact setF_ne (I.e10 j j1 j2 h)
  all_goals first | rwa [hs2 7 (by omega)] at h | rwa [hs2 8 (by omega)] at h | rwa [hs2 9 (by omega)] at h | rwa [hs2 13 (by omega)] at h | rwa [hs2 14 (by omega)] at h | rwa [hs2 15 (by omega)] at h | rwa [hs2 16 (by omega)] at h | rwa [hs2 17 (by omega)] at h
theorem howForR_E : EnvOK ⟨Tryz.prog, tys, [(35, isEachR_S)], [], [], []⟩ := env_ok mixed0 tys0 (.cons isEachR_ca isEachR_ok .nil) .nil .nil rfl
theorem howForR_ca : callable Tryz.prog 74 = true := by kernel_rfl
def howForR_S : Spec := fun args K => ∃ (c : Cmd), args = [cmdV c] ∧ (1 ≤ c.kind ∧ c.kind ≤ 10) ∧ K (.int .i64 (howFor c))
set_option maxHeartbeats 4000000 in
theorem howForR_ok : Pure Tryz.prog 74 howForR_S := by
  refine pure_any howForR_E 1 (fi := {fn := Tryz.f74, hooks := [], draws := [(1, [0, 1, 1, 1, 1, 1, 63, 0, 128, 511, 0, 1024, 3072, 0, 8192, 31744, 65535, 131071])]}) Tryz.func74 rfl rfl (by kernel_rfl) (by kernel_rfl) (by kernel_rfl) ?_
  rintro _ K ⟨c, rfl, hk, hK⟩
  replace hK : ∀ r, r = .int .i64 (howFor c) → K r := fun r h => h ▸ hK
  refine ⟨(by show 1 ≤ 14; decide), ?_⟩
  conv => whnf
  refine ⟨HI c, ⟨rfl, rfl, nofun, nofun, nofun, nofun, nofun, nofun, nofun, nofun, nofun, nofun, nofun, nofun, nofun, nofun⟩, fun sel L rows i o ho hs hall I => ?_, fun sel L rows hall I => ?_⟩
  · have hi : i < 18 := (Array.getElem?_eq_some_iff.1 ho).1
    have hi2 : i = 0 ∨ i = 1 ∨ i = 2 ∨ i = 3 ∨ i = 4 ∨ i = 5 ∨ i = 6 ∨ i = 7 ∨ i = 8 ∨ i = 9 ∨ i = 10 ∨ i = 11 ∨ i = 12 ∨ i = 13 ∨ i = 14 ∨ i = 15 ∨ i = 16 ∨ i = 17 := by omega
    clear hi
    rcases hi2 with rfl | rfl | rfl | rfl | rfl | rfl | rfl | rfl | rfl | rfl | rfl | rfl | rfl | rfl | rfl | rfl | rfl | rfl
    · -- 0
      obtain rfl := Option.some.inj (show some _ = some o from ho)
      refine ⟨rfl, ?_⟩
      conv => whnf
      refine ⟨Int, intV, ?_⟩
      refine mk_of ?_
      have n1 : ∀ j, 1 ≤ j → j ≤ 6 → sel j = false := fun j j1 j2 => by
        cases h : sel j with
        | false => rfl
        | true => have := I.e0 j j1 j2 h; rw [hs] at this; cases this
      refine ⟨I.b1, nth_add I.b2, (fun _ => ⟨_, [], rfl, nth_new, ?_, fun h => ?_⟩), (fun h => ?_), (fun h => ?_), I.d12, (fun _ _ _ _ => rfl), (fun j j1 j2 h => (setF_inv h).elim (fun e => by omega) (fun h => I.e10 j j1 j2 h)), I.t7, I.t8, I.t9, I.t13, I.t14, I.t15, I.t16, I.t17⟩
      · intro k
        show (0 : Int) = hfA sel k
        unfold hfA
        simp [n1 1, n1 2, n1 3, n1 4, n1 5]
      · exact absurd (show sel 6 = true from h) (by rw [n1 6 (by decide) (by decide)]; simp)
      · obtain ⟨rb, eb, g1, g2, g3, g4⟩ := I.b h
        exact ⟨rb, eb, g1, nth_add g2, g3, g4⟩
      · exact absurd (show sel 6 = true from h) (by rw [n1 6 (by decide) (by decide)]; simp)
    · -- 1
      obtain rfl := Option.some.inj (show some _ = some o from ho)
      have s0 : sel 0 = true := hall ⟨0, .data⟩ (by simp) rfl
      obtain ⟨ra, ents, h1, h2, h3, h4⟩ := I.a s0
      refine ⟨rfl, ?_⟩
      have hx : mapPutO ⟨Tryz.prog, tys, [(35, isEachR_S)], [], [], []⟩ 177 (.map ra) (.int .i64 6) (.int .i64 2) rows fun v' rows' => HI c (setF sel 1) L rows' := by
        unfold mapPutO mapK
        conv => whnf
        rw [h2]
        conv => whnf
        refine ⟨2, rfl, rfl, rfl, ?_⟩
        exact setK_of _ _ _ _ (nth_set_self (y := .dead) h2).1 (hi_a I hs s0 (by decide) h1 h2 h3 h4)
      exact evO_of h1 hx
    · -- 2
      obtain rfl := Option.some.inj (show some _ = some o from ho)
      have s0 : sel 0 = true := hall ⟨0, .data⟩ (by simp) rfl
      obtain ⟨ra, ents, h1, h2, h3, h4⟩ := I.a s0
      refine ⟨rfl, ?_⟩
      have hx : mapPutO ⟨Tryz.prog, tys, [(35, isEachR_S)], [], [], []⟩ 177 (.map ra) (.int .i64 8) (.int .i64 3) rows fun v' rows' => HI c (setF sel 2) L rows' := by
        unfold mapPutO mapK
        conv => whnf
        rw [h2]
        conv => whnf
        refine ⟨3, rfl, rfl, rfl, ?_⟩
        exact setK_of _ _ _ _ (nth_set_self (y := .dead) h2).1 (hi_a I hs s0 (by decide) h1 h2 h3 h4)
      exact evO_of h1 hx
    · -- 3
      obtain rfl := Option.some.inj (show some _ = some o from ho)
      have s0 : sel 0 = true := hall ⟨0, .data⟩ (by simp) rfl
      obtain ⟨ra, ents, h1, h2, h3, h4⟩ := I.a s0
      refine ⟨rfl, ?_⟩
      have hx : mapPutO ⟨Tryz.prog, tys, [(35, isEachR_S)], [], [], []⟩ 177 (.map ra) (.int .i64 7) (.int .i64 4) rows fun v' rows' => HI c (setF sel 3) L rows' := by
        unfold mapPutO mapK
        conv => whnf
        rw [h2]
        conv => whnf
        refine ⟨4, rfl, rfl, rfl, ?_⟩
        exact setK_of _ _ _ _ (nth_set_self (y := .dead) h2).1 (hi_a I hs s0 (by decide) h1 h2 h3 h4)
      exact evO_of h1 hx
    · -- 4
      obtain rfl := Option.some.inj (show some _ = some o from ho)
      have s0 : sel 0 = true := hall ⟨0, .data⟩ (by simp) rfl
      obtain ⟨ra, ents, h1, h2, h3, h4⟩ := I.a s0
      refine ⟨rfl, ?_⟩
      have hx : mapPutO ⟨Tryz.prog, tys, [(35, isEachR_S)], [], [], []⟩ 177 (.map ra) (.int .i64 9) (.int .i64 4) rows fun v' rows' => HI c (setF sel 4) L rows' := by
        unfold mapPutO mapK
        conv => whnf
        rw [h2]
        conv => whnf
        refine ⟨4, rfl, rfl, rfl, ?_⟩
        exact setK_of _ _ _ _ (nth_set_self (y := .dead) h2).1 (hi_a I hs s0 (by decide) h1 h2 h3 h4)
      exact evO_of h1 hx
    · -- 5
      obtain rfl := Option.some.inj (show some _ = some o from ho)
      have s0 : sel 0 = true := hall ⟨0, .data⟩ (by simp) rfl
      obtain ⟨ra, ents, h1, h2, h3, h4⟩ := I.a s0
      refine ⟨rfl, ?_⟩
      have hx : mapPutO ⟨Tryz.prog, tys, [(35, isEachR_S)], [], [], []⟩ 177 (.map ra) (.int .i64 10) (.int .i64 4) rows fun v' rows' => HI c (setF sel 5) L rows' := by
        unfold mapPutO mapK
        conv => whnf
        rw [h2]
        conv => whnf
        refine ⟨4, rfl, rfl, rfl, ?_⟩
        exact setK_of _ _ _ _ (nth_set_self (y := .dead) h2).1 (hi_a I hs s0 (by decide) h1 h2 h3 h4)
      exact evO_of h1 hx
    · -- 6
      obtain rfl := Option.some.inj (show some _ = some o from ho)
      have s0 : sel 0 = true := hall ⟨0, .data⟩ (by simp) rfl
      have s1 : sel 1 = true := hall ⟨1, .data⟩ (by simp) rfl
      have s2 : sel 2 = true := hall ⟨2, .data⟩ (by simp) rfl
      have s3 : sel 3 = true := hall ⟨3, .data⟩ (by simp) rfl
      have s4 : sel 4 = true := hall ⟨4, .data⟩ (by simp) rfl
      have s5 : sel 5 = true := hall ⟨5, .data⟩ (by simp) rfl
      obtain ⟨ra, ents, h1, h2, h3, h4⟩ := I.a s0
      refine ⟨rfl, ?_⟩
      refine evO_of (t := 3) (h1) ?_
      exact ⟨I.b1, I.b2, (fun _ => ⟨ra, ents, h1, h2, h3, fun _ => rfl⟩), I.b, (fun _ => ⟨s0, s1, s2, s3, s4, s5⟩), I.d12, (fun _ _ _ _ => s0), (fun j j1 j2 h => (setF_inv h).elim (fun e => by omega) (fun h => I.e10 j j1 j2 h)), I.t7, I.t8, I.t9, I.t13, I.t14, I.t15, I.t16, I.t17⟩
    · -- 7
      obtain rfl := Option.some.inj (show some _ = some o from ho)
      refine ⟨rfl, ?_⟩
      refine evO_of (t := 1) (I.b1) ?_
      conv => whnf
      exact ⟨I.b1, I.b2, I.a, I.b, I.d6, I.d12, (fun j j1 j2 h => (setF_inv h).elim (fun e => by omega) (fun h => I.e0 j j1 j2 h)), (fun j j1 j2 h => (setF_inv h).elim (fun e => by omega) (fun h => I.e10 j j1 j2 h)), (fun _ => rfl), I.t8, I.t9, I.t13, I.t14, I.t15, I.t16, I.t17⟩
    · -- 8
      obtain rfl := Option.some.inj (show some _ = some o from ho)
      have s7 : sel 7 = true := hall ⟨7, .data⟩ (by simp) rfl
      refine ⟨rfl, ?_⟩
      refine evO_of (t := 5) (I.t7 s7) ?_
      have hx : loadO ⟨Tryz.prog, tys, [(35, isEachR_S)], [], [], []⟩ 3 (.ptr 0 0 0) rows fun v' => HI c (setF sel 8) ((6, v') :: L) rows := by
        unfold loadO
        conv => whnf
        rw [I.b2]
        conv => whnf
        exact ⟨I.b1, I.b2, I.a, I.b, I.d6, I.d12, (fun j j1 j2 h => (setF_inv h).elim (fun e => by omega) (fun h => I.e0 j j1 j2 h)), (fun j j1 j2 h => (setF_inv h).elim (fun e => by omega) (fun h => I.e10 j j1 j2 h)), I.t7, (fun _ => rfl), I.t9, I.t13, I.t14, I.t15, I.t16, I.t17⟩
      exact hx
    · -- 9
      obtain rfl := Option.some.inj (show some _ = some o from ho)
      have s6 : sel 6 = true := hall ⟨6, .data⟩ (by simp) rfl
      have s8 : sel 8 = true := hall ⟨8, .data⟩ (by simp) rfl
      obtain ⟨s0, s1, s2, s3, s4, s5⟩ := I.d6 s6
      obtain ⟨ra, ents, h1, h2, h3, h4⟩ := I.a s0
      refine ⟨rfl, ?_⟩
      refine evO_of (t := 4) (h4 s6) ?_
      refine evO_of (t := 6) (I.t8 s8) ?_
      have he : mget 0 ents [c.kind] = hfF c := by
        rw [h3]
        unfold hfF hfA
        simp only [s1, s2, s3, s4, s5]
      have hx : mapGetO ⟨Tryz.prog, tys, [(35, isEachR_S)], [], [], []⟩ 177 (.map ra) (.int .i64 c.kind) rows fun v' => HI c (setF sel 9) ((7, v') :: L) rows := by
        unfold mapGetO mapK
        conv => whnf
        rw [h2]
        conv => whnf
        refine ⟨(0 : Int), rfl, ?_⟩
        rw [he]
        exact ⟨I.b1, I.b2, I.a, I.b, I.d6, I.d12, (fun j j1 j2 h => (setF_inv h).elim (fun e => by omega) (fun h => I.e0 j j1 j2 h)), (fun j j1 j2 h => (setF_inv h).elim (fun e => by omega) (fun h => I.e10 j j1 j2 h)), I.t7, I.t8, (fun _ => rfl), I.t13, I.t14, I.t15, I.t16, I.t17⟩
      exact hx
    · -- 10
      obtain rfl := Option.some.inj (show some _ = some o from ho)
      refine ⟨rfl, ?_⟩
      conv => whnf
      refine ⟨Int, intV, ?_⟩
      refine mk_of ?_
      have n1 : ∀ j, 11 ≤ j → j ≤ 12 → sel j = false := fun j j1 j2 => by
        cases h : sel j with
        | false => rfl
        | true => have := I.e10 j j1 j2 h; rw [hs] at this; cases this
      refine ⟨I.b1, nth_add I.b2, (fun h => ?_), (fun _ => ⟨_, [], rfl, nth_new, ?_, fun h => ?_⟩), I.d6, (fun h => ?_), (fun j j1 j2 h => (setF_inv h).elim (fun e => by omega) (fun h => I.e0 j j1 j2 h)), (fun _ _ _ _ => rfl), I.t7, I.t8, I.t9, I.t13, I.t14, I.t15, I.t16, I.t17⟩
      · obtain ⟨ra, ea, g1, g2, g3, g4⟩ := I.a h
        exact ⟨ra, ea, g1, nth_add g2, g3, g4⟩
      · intro k
        show (0 : Int) = hfB sel k
        unfold hfB
        simp [n1 11]
      · exact absurd (show sel 12 = true from h) (by rw [n1 12 (by decide) (by decide)]; simp)
      · exact absurd (show sel 12 = true from h) (by rw [n1 12 (by decide) (by decide)]; simp)
    · -- 11
      obtain rfl := Option.some.inj (show some _ = some o from ho)
      have s10 : sel 10 = true := hall ⟨10, .data⟩ (by simp) rfl
      obtain ⟨rb, ents, h1, h2, h3, h4⟩ := I.b s10
      have hn0 : rb ≠ 0 := fun e => by subst e; rw [I.b2] at h2; cases h2
      refine ⟨rfl, ?_⟩
      have hx : mapPutO ⟨Tryz.prog, tys, [(35, isEachR_S)], [], [], []⟩ 178 (.map rb) (.lit true) (.int .i64 1) rows fun v' rows' => HI c (setF sel 11) L rows' := by
        unfold mapPutO mapK
        conv => whnf
        rw [h2]
        conv => whnf
        refine ⟨1, rfl, rfl, rfl, ?_⟩
        refine setK_of _ _ _ _ (nth_set_self (y := .dead) h2).1 ?_
        refine ⟨I.b1, nth_set_other I.b2 hn0, (fun h => ?_), (fun _ => ⟨rb, _, h1, (nth_set_self h2).2, fun k => ?_, h4⟩), I.d6, (fun h => ⟨s10, rfl⟩), (fun j j1 j2 h => (setF_inv h).elim (fun e => by omega) (fun h => I.e0 j j1 j2 h)), (fun _ _ _ _ => s10), I.t7, I.t8, I.t9, I.t13, I.t14, I.t15, I.t16, I.t17⟩
        · obtain ⟨ra, ea, g1, g2, g3, g4⟩ := I.a h
          exact ⟨ra, ea, g1, nth_set_other g2 (fun e => by subst e; rw [h2] at g2; cases g2), g3, g4⟩
        · rw [mget_mput, h3]
          have e : ([(1 : Int)] = [k]) = (k = 1) := by simp [eq_comm]
          show (if [(1 : Int)] = [k] then 1 else hfB sel k) = (if k = 1 ∧ true = true then (1 : Int) else 0)
          simp only [e]
          unfold hfB
          rw [hs]
          simp
      exact evO_of h1 hx
    · -- 12
      obtain rfl := Option.some.inj (show some _ = some o from ho)
      have s10 : sel 10 = true := hall ⟨10, .data⟩ (by simp) rfl
      have s11 : sel 11 = true := hall ⟨11, .data⟩ (by simp) rfl
      obtain ⟨rb, ents, h1, h2, h3, h4⟩ := I.b s10
      refine ⟨rfl, ?_⟩
      refine evO_of (t := 8) (h1) ?_
      exact ⟨I.b1, I.b2, I.a, (fun _ => ⟨rb, ents, h1, h2, h3, fun _ => rfl⟩), I.d6, (fun _ => ⟨s10, s11⟩), (fun j j1 j2 h => (setF_inv h).elim (fun e => by omega) (fun h => I.e0 j j1 j2 h)), (fun _ _ _ _ => s10), I.t7, I.t8, I.t9, I.t13, I.t14, I.t15, I.t16, I.t17⟩
    · -- 13
      obtain rfl := Option.some.inj (show some _ = some o from ho)
      refine ⟨rfl, ?_⟩
      refine evO_of (t := 1) (I.b1) ?_
      have hx : loadO ⟨Tryz.prog, tys, [(35, isEachR_S)], [], [], []⟩ 48 (.ptr 0 0 0) rows fun v' => HI c (setF sel 13) ((10, v') :: L) rows := by
        unfold loadO
        conv => whnf
        rw [I.b2]
        conv => whnf
        exact ⟨I.b1, I.b2, I.a, I.b, I.d6, I.d12, (fun j j1 j2 h => (setF_inv h).elim (fun e => by omega) (fun h => I.e0 j j1 j2 h)), (fun j j1 j2 h => (setF_inv h).elim (fun e => by omega) (fun h => I.e10 j j1 j2 h)), I.t7, I.t8, I.t9, (fun _ => rfl), I.t14, I.t15, I.t16, I.t17⟩
      exact hx
    · -- 14
      obtain rfl := Option.some.inj (show some _ = some o from ho)
      have s13 : sel 13 = true := hall ⟨13, .data⟩ (by simp) rfl
      refine ⟨rfl, ?_⟩
      conv => whnf
      rw [I.t13 s13]
      conv => whnf
      refine ⟨c, rfl, ?_⟩
      exact ⟨I.b1, I.b2, I.a, I.b, I.d6, I.d12, (fun j j1 j2 h => (setF_inv h).elim (fun e => by omega) (fun h => I.e0 j j1 j2 h)), (fun j j1 j2 h => (setF_inv h).elim (fun e => by omega) (fun h => I.e10 j j1 j2 h)), I.t7, I.t8, I.t9, I.t13, (fun _ => rfl), I.t15, I.t16, I.t17⟩
    · -- 15
      obtain rfl := Option.some.inj (show some _ = some o from ho)
      have s12 : sel 12 = true := hall ⟨12, .data⟩ (by simp) rfl
      have s14 : sel 14 = true := hall ⟨14, .data⟩ (by simp) rfl
      obtain ⟨s10, s11⟩ := I.d12 s12
      obtain ⟨rb, ents, h1, h2, h3, h4⟩ := I.b s10
      refine ⟨rfl, ?_⟩
      refine evO_of (t := 9) (h4 s12) ?_
      refine evO_of (t := 11) (I.t14 s14) ?_
      have he : mget 0 ents [b2i (Gp.each c)] = hfG c := by
        rw [h3]
        unfold hfG hfB
        simp only [s11]
      have hx : mapGetO ⟨Tryz.prog, tys, [(35, isEachR_S)], [], [], []⟩ 178 (.map rb) (.bool (Gp.each c)) rows fun v' => HI c (setF sel 15) ((12, v') :: L) rows := by
        unfold mapGetO mapK
        conv => whnf
        rw [h2]
        conv => whnf
        refine ⟨(0 : Int), rfl, ?_⟩
        rw [he]
        exact ⟨I.b1, I.b2, I.a, I.b, I.d6, I.d12, (fun j j1 j2 h => (setF_inv h).elim (fun e => by omega) (fun h => I.e0 j j1 j2 h)), (fun j j1 j2 h => (setF_inv h).elim (fun e => by omega) (fun h => I.e10 j j1 j2 h)), I.t7, I.t8, I.t9, I.t13, I.t14, (fun _ => rfl), I.t16, I.t17⟩
      exact hx
    · -- 16
      obtain rfl := Option.some.inj (show some _ = some o from ho)
      have s9 : sel 9 = true := hall ⟨9, .data⟩ (by simp) rfl
      have s15 : sel 15 = true := hall ⟨15, .data⟩ (by simp) rfl
      refine ⟨rfl, ?_⟩
      conv => whnf
      rw [I.t9 s9]
      conv => whnf
      rw [I.t15 s15]
      conv => whnf
      exact ⟨hfI c, ⟨I.b1, I.b2, I.a, I.b, I.d6, I.d12, (fun j j1 j2 h => (setF_inv h).elim (fun e => by omega) (fun h => I.e0 j j1 j2 h)), (fun j j1 j2 h => (setF_inv h).elim (fun e => by omega) (fun h => I.e10 j j1 j2 h)), I.t7, I.t8, I.t9, I.t13, I.t14, I.t15, (fun _ => rfl), I.t17⟩⟩
    · -- 17
      obtain rfl := Option.some.inj (show some _ = some o from ho)
      have s16 : sel 16 = true := hall ⟨16, .data⟩ (by simp) rfl
      refine ⟨rfl, ?_⟩
      refine evO_of (t := 13) (I.t16 s16) ?_
      exact ⟨I.b1, I.b2, I.a, I.b, I.d6, I.d12, (fun j j1 j2 h => (setF_inv h).elim (fun e => by omega) (fun h => I.e0 j j1 j2 h)), (fun j j1 j2 h => (setF_inv h).elim (fun e => by omega) (fun h => I.e10 j j1 j2 h)), I.t7, I.t8, I.t9, I.t13, I.t14, I.t15, I.t16, (fun _ => rfl)⟩
  · refine ⟨_, I.t17 (hall 17 (by show 17 < 18; decide)), ?_⟩
    conv => whnf
    refine hK _ ?_
    rw [hf_eq hk]
end Gv
namespace Gv
variable [Glob] [Laid]
theorem linesOfR_ca : callable Tryz.prog 38 = true := by kernel_rfl
def linesOfR_S : Spec := fun args K => ∃ (b : Bs), args = [.sl byteV b] ∧ b.length ≤ 1000000 ∧ K (.sl strV (linesOf b))
noncomputable def linesOfR_lib : List (Nat × Spec) := [(105, splitS_S)]
noncomputable def linesOfR_fns : List (Nat × FnI) := []
noncomputable def linesOfR_prims : List (Nat × PSpec) := []
theorem linesOfR_E : EnvOK ⟨Tryz.prog, tys, linesOfR_lib, linesOfR_fns, linesOfR_prims, []⟩ := env_ok mixed0 tys0 (.cons splitS_ca splitS_ok .nil) .nil .nil rfl
set_option maxHeartbeats 4000000 in
theorem linesOfR_ok : Pure Tryz.prog 38 linesOfR_S := by
  refine pure_by linesOfR_E 6 (fi := {fn := Tryz.f38, hooks := [], draws := []}) ⟨Tryz.func38, by kernel_rfl, by kernel_rfl⟩ ?_
  rintro _ K ⟨b, rfl, hz, hK⟩
  replace hK : ∀ r, r = .sl strV (linesOf b) → K r := fun r h => h ▸ hK
  have hsl := split_lines b
  have hsn : 0 < (Lib.split b [10]).length := List.length_pos_iff.2 (split_ne b [10])
  obtain ⟨L, hL⟩ : ∃ L, Lib.split b [10] = L := ⟨_, rfl⟩
  refine ⟨b, fun _ => rfl, rfl, ?_⟩
  refine ⟨b, [10], rfl, ⟨by omega, by decide⟩, ?_⟩
  rw [hL] at hsl hsn ⊢
  repeat' (first | exact True.intro | refine ⟨_, LeL.refl _, ?_⟩ | refine ⟨_, _, _, LeL.refl _, ?_⟩ | (refine fun (b : Bool) hb => ?_; cases b <;> (first | exact absurd hb (by decide) | exact Bool.noConfusion (show true = false from hb) | exact Bool.noConfusion (show false = true from hb) | skip)) | (refine fun (hl : _ ≤ MAXL) => ?_) | refine And.intro (a := I64 _) ?_ ?_ | refine And.intro (a := _ ≤ 140737488355328) ?_ ?_ | refine ⟨_, ⟨rfl, rfl⟩, ?_⟩ | refine ⟨_, And.intro (a := I64 _) ?_ ⟨rfl, rfl⟩, ?_⟩ | refine ⟨_, _, ⟨rfl, rfl⟩, ?_⟩ | refine ⟨_, (fun _ => ⟨rfl, rfl⟩), ?_⟩ | refine And.intro (a := chkPend _ _ _ _ _ _) ?_ ?_ | refine And.intro (a := chkPast _ _ _ _ _ _ _ _) ?_ ?_ | refine ⟨⟨rfl, rfl⟩, ?_⟩ | refine And.intro (And.intro rfl rfl) ?_ | refine ⟨True.intro, ?_⟩ | refine ⟨_, ⟨_, rfl, ?_, rfl, rfl, rfl⟩, ?_⟩ | refine ⟨_, rfl, ?_, rfl, ?_⟩ | refine ⟨_, (fun _ => rfl), rfl, ?_⟩ | refine ⟨(fun _ => rfl), ?_⟩ | refine ⟨rfl, ?_⟩ | refine Opt.a ?_ | fail)
  · (first | omega | (unfold I64; omega) | (simp only [List.length_append, List.length_map, List.length_cons, List.length_nil, Nat.mul_one, Int.ofNat_eq_natCast] at *; omega) | (dsimp only at *; omega) | (unfold I64; dsimp only at *; omega) | (unfold I64; grind) | grind)
  refine ⟨L.length - 1, by omega, by omega, ?_⟩
  repeat' (first | exact True.intro | refine ⟨_, LeL.refl _, ?_⟩ | refine ⟨_, _, _, LeL.refl _, ?_⟩ | (refine fun (b : Bool) hb => ?_; cases b <;> (first | exact absurd hb (by decide) | exact Bool.noConfusion (show true = false from hb) | exact Bool.noConfusion (show false = true from hb) | skip)) | (refine fun (hl : _ ≤ MAXL) => ?_) | refine And.intro (a := I64 _) ?_ ?_ | refine And.intro (a := _ ≤ 140737488355328) ?_ ?_ | refine ⟨_, ⟨rfl, rfl⟩, ?_⟩ | refine ⟨_, And.intro (a := I64 _) ?_ ⟨rfl, rfl⟩, ?_⟩ | refine ⟨_, _, ⟨rfl, rfl⟩, ?_⟩ | refine ⟨_, (fun _ => ⟨rfl, rfl⟩), ?_⟩ | refine And.intro (a := chkPend _ _ _ _ _ _) ?_ ?_ | refine And.intro (a := chkPast _ _ _ _ _ _ _ _) ?_ ?_ | refine ⟨⟨rfl, rfl⟩, ?_⟩ | refine And.intro (And.intro rfl rfl) ?_ | refine ⟨True.intro, ?_⟩ | refine ⟨_, ⟨_, rfl, ?_, rfl, rfl, rfl⟩, ?_⟩ | refine ⟨_, rfl, ?_, rfl, ?_⟩ | refine ⟨_, (fun _ => rfl), rfl, ?_⟩ | refine ⟨(fun _ => rfl), ?_⟩ | refine ⟨rfl, ?_⟩ | refine Opt.a ?_ | fail)
  · have h : ¬ L[L.length - 1] = [] := of_decide_eq_false (by assumption)
    conv => whnf
    refine hK _ ?_
    rw [← hsl]
    unfold dropE
    rw [if_neg (by rw [List.getLast?_eq_getElem?, List.getElem?_eq_getElem (by omega)]; simpa using h)]
  · (first | omega | (unfold I64; omega) | (simp only [List.length_append, List.length_map, List.length_cons, List.length_nil, Nat.mul_one, Int.ofNat_eq_natCast] at *; omega) | (dsimp only at *; omega) | (unfold I64; dsimp only at *; omega) | (unfold I64; grind) | grind)
  have h : L[L.length - 1] = [] := of_decide_eq_true (by assumption)
  refine ⟨L.length - 1, by omega, by omega, ?_⟩
  repeat' (first | exact True.intro | refine ⟨_, LeL.refl _, ?_⟩ | refine ⟨_, _, _, LeL.refl _, ?_⟩ | (refine fun (b : Bool) hb => ?_; cases b <;> (first | exact absurd hb (by decide) | exact Bool.noConfusion (show true = false from hb) | exact Bool.noConfusion (show false = true from hb) | skip)) | (refine fun (hl : _ ≤ MAXL) => ?_) | refine And.intro (a := I64 _) ?_ ?_ | refine And.intro (a := _ ≤ 140737488355328) ?_ ?_ | refine ⟨_, ⟨rfl, rfl⟩, ?_⟩ | refine ⟨_, And.intro (a := I64 _) ?_ ⟨rfl, rfl⟩, ?_⟩ | refine ⟨_, _, ⟨rfl, rfl⟩, ?_⟩ | refine ⟨_, (fun _ => ⟨rfl, rfl⟩), ?_⟩ | refine And.intro (a := chkPend _ _ _ _ _ _) ?_ ?_ | refine And.intro (a := chkPast _ _ _ _ _ _ _ _) ?_ ?_ | refine ⟨⟨rfl, rfl⟩, ?_⟩ | refine And.intro (And.intro rfl rfl) ?_ | refine ⟨True.intro, ?_⟩ | refine ⟨_, ⟨_, rfl, ?_, rfl, rfl, rfl⟩, ?_⟩ | refine ⟨_, rfl, ?_, rfl, ?_⟩ | refine ⟨_, (fun _ => rfl), rfl, ?_⟩ | refine ⟨(fun _ => rfl), ?_⟩ | refine ⟨rfl, ?_⟩ | refine Opt.a ?_ | fail)
  refine hK _ ?_
  rw [← hsl]
  unfold dropE
  rw [if_pos (by rw [List.getLast?_eq_getElem?, List.getElem?_eq_getElem (by omega), h]), List.dropLast_eq_take]
end Gv
namespace Gv
variable [Glob] [Laid] [Errs]
theorem parseIS_ca : callable Tryz.prog 117 = true := by kernel_rfl
def parseIS_S : Spec := fun args K => ∃ (s : Bs), args = [.str s, .int .i64 10, .int .i64 64] ∧ s.length ≤ 140737488355328 ∧ (∀ k, Lib.atoiAll s = .ok k → K (.tup [.int .i64 k, .raw .nilIface])) ∧ ∀ n T b, (∀ k, Lib.atoiAll s ≠ .ok k) → K (.tup [.int .i64 n, .raw (.iface T (.pointer (some ⟨b, 0, none⟩)))])
set_option maxHeartbeats 4000000 in
theorem parseIS_ok : Pure Tryz.prog 117 parseIS_S := by
  intro w m args us K hm hg hv hT
  obtain ⟨s, rfl, h1, hok, herr⟩ := hT
  obtain ⟨a, b, c, rfl, ha, hb, hc⟩ := args3 hv.1 hv.2
  cases hb; cases hc
  obtain ⟨rfl, -⟩ := vr_str ha
  have hgw : Sub Glob.mem w := fun b o e => hm b o (hg b o e)
  have two : ∀ {m : Mem} {n : Int} {u : Value}, VR m noLoc (.tup [.int .i64 n, .raw u]) (.tuple #[.int .i64 n, u]) := fun {m n u} => by
    have h : VRL m noLoc [.int .i64 n, .raw u] [.int .i64 n, u] := VRL.cons .int (VRL.cons .raw VRL.nil)
    exact .tup h.len h.el
  have hp : Lib.parseIntB 64 s = Lib.atoiAll s := Lib.parseIntB_64 s
  rw [← hp] at hok herr
  cases h : Lib.parseIntB 64 s with
  | ok v =>
    refine (Tryz.strconv_ParseInt_10_at64_ok (ba s) (by rw [ba_size]; omega) v h w).mono fun e w' ⟨he, hw⟩ => ?_
    refine ⟨_, _, he, Bel.of_below ?_, hok v h, two⟩
    rcases hw with rfl | ⟨t, rfl⟩
    · exact RowKit.Below.refl _ _
    · exact Lib.bytesWorld_below _ _ _
  | range =>
    obtain ⟨tp, pv, e1⟩ := Errs.rng w hgw
    refine (Tryz.strconv_ParseInt_10_at64_range_var (ba s) (by rw [ba_size]; omega) h tp pv w e1).mono fun e w' ⟨N, he, _, _, hw⟩ => ?_
    exact ⟨_, _, he, Bel.of_below hw, herr _ _ _ (fun k => by rw [h]; intro x; cases x), two⟩
  | _ =>
    obtain ⟨tp, pv, e1⟩ := Errs.syn w hgw
    refine (Tryz.strconv_ParseInt_10_at64_syntax_var (ba s) (by rw [ba_size]; omega) h tp pv w e1).mono fun e w' ⟨N, he, _, _, hw⟩ => ?_
    exact ⟨_, _, he, Bel.of_below hw, herr _ _ _ (fun k => by rw [h]; intro x; cases x), two⟩
end Gv
namespace Gv
variable [Glob] [Laid] [Nums]
theorem fmtI_ca : callable Tryz.prog 118 = true := by kernel_rfl
def fmtI_S : Spec := fun args K => ∃ (n : Int), args = [.int .i64 n, .int .i64 10] ∧ I64 n ∧ K (.str (Lib.itoa n))
set_option maxHeartbeats 4000000 in
theorem fmtI_ok : Pure Tryz.prog 118 fmtI_S := by
  intro w m args us K hm hg hv hT
  obtain ⟨n, rfl, h1, hK⟩ := hT
  obtain ⟨a, b, rfl, ha, hb⟩ := args2 hv.1 hv.2
  cases ha
  cases hb
  refine (Tryz.strconv_FormatInt_10 n h1.1 h1.2 w (Nums.pow10 w (fun b o e => hm b o (hg b o e)))).mono fun e w' ⟨he, k, os, hw⟩ => ?_
  subst hw
  have := itoa_len n h1
  exact ⟨_, _, he, bel_more w k os, hK, .str (by unfold MAXL; omega)⟩
end Gv
namespace Gv
variable [Glob] [Laid] [Nums]
theorem madeR_ca : callable Tryz.prog 37 = true := by kernel_rfl
def madeR_S : Spec := fun args K => ∃ (c : Cmd) (l : List Bs), args = [cmdV c, .sl strV l] ∧ (checkCmd c = 0 ∧ l.length ≤ 100000 ∧ ∀ s ∈ l, s.length ≤ 100000) ∧ K (.sl strV (linesC c l))
noncomputable def madeR_lib : List (Nat × Spec) := [(104, containsS_S), (105, splitS_S), (107, itoa_S)]
noncomputable def madeR_fns : List (Nat × FnI) := [(106, {fn := Tryz.f106, hooks := [], draws := []})]
noncomputable def madeR_prims : List (Nat × PSpec) := [(159, sortS_P)]
theorem madeR_E : EnvOK ⟨Tryz.prog, tys, madeR_lib, madeR_fns, madeR_prims, []⟩ := env_ok mixed0 tys0 (.cons containsS_ca containsS_ok (.cons splitS_ca splitS_ok (.cons itoa_ca itoa_ok .nil))) (.cons (by kernel_rfl) ⟨Tryz.func106, by kernel_rfl, by kernel_rfl⟩ .nil) (.cons sortS_prim .nil) rfl
set_option maxHeartbeats 40000000 in
theorem madeR_ok : Pure Tryz.prog 37 madeR_S := by
  refine pure_by madeR_E 6 (fi := {fn := Tryz.f37, hooks := [40], draws := [(16, [0, 0, 3, 7, 0, 16, 48, 127])]}) ⟨Tryz.func37, by kernel_rfl, by kernel_rfl⟩ ?_
  rintro _ K ⟨c, l, rfl, ⟨hc, hlc, hs⟩, hK⟩
  replace hK : ∀ r, r = .sl strV (linesC c l) → K r := fun r h => h ▸ hK
  have hkind : 1 ≤ c.kind ∧ c.kind ≤ 10 := by
    unfold checkCmd at hc
    grind
  repeat' (first | exact True.intro | refine ⟨_, LeL.refl _, ?_⟩ | refine ⟨_, _, _, LeL.refl _, ?_⟩ | (refine fun (b : Bool) hb => ?_; cases b <;> (first | exact absurd hb (by decide) | exact Bool.noConfusion (show true = false from hb) | exact Bool.noConfusion (show false = true from hb) | skip)) | (refine fun (hl : _ ≤ MAXL) => ?_) | refine And.intro (a := I64 _) ?_ ?_ | refine And.intro (a := _ ≤ 140737488355328) ?_ ?_ | refine ⟨_, ⟨rfl, rfl⟩, ?_⟩ | refine ⟨_, And.intro (a := I64 _) ?_ ⟨rfl, rfl⟩, ?_⟩ | refine ⟨_, _, ⟨rfl, rfl⟩, ?_⟩ | refine ⟨_, (fun _ => ⟨rfl, rfl⟩), ?_⟩ | refine And.intro (a := chkPend _ _ _ _ _ _) ?_ ?_ | refine And.intro (a := chkPast _ _ _ _ _ _ _ _) ?_ ?_ | refine ⟨⟨rfl, rfl⟩, ?_⟩ | refine And.intro (And.intro rfl rfl) ?_ | refine ⟨True.intro, ?_⟩ | refine ⟨_, ⟨_, rfl, ?_, rfl, rfl, rfl⟩, ?_⟩ | refine ⟨_, rfl, ?_, rfl, ?_⟩ | refine ⟨_, (fun _ => rfl), rfl, ?_⟩ | refine ⟨(fun _ => rfl), ?_⟩ | refine ⟨rfl, ?_⟩ | refine Opt.a ?_ | fail)
  conv => whnf
  refine loop_live [1, 2, 14, 15] (σ := Nat × List Bs) (fun s => [(16, .int .i64 s.1), (5, .own 1)]) (fun s => [.box (cmdV c).cells, .row 1 (s.2.map strV)]) (fun s => s.2 = accM c l s.1 ∧ s.1 ≤ l.length) (fun s => l.length - s.1) (0, []) ?_
  conv => whnf
  refine ⟨(by (refine wk_auto ?_; refine Sel4.mk rfl rfl ?_ ?_ <;> (repeat' (first | exact True.intro | exact rfl | exact Or.inl rfl | exact Or.inr rfl | refine And.intro ?_ ?_ | fail)))), ⟨(accM_0 c l).symm, Nat.zero_le _⟩, fun s hs => ?_⟩
  obtain ⟨i, out⟩ := s
  obtain ⟨ho, hi⟩ := hs
  dsimp only at ho hi
  have hol : out.length ≤ 100000 := by rw [ho]; exact Nat.le_trans (accM_len c l i hi) hlc
  repeat' (first | exact True.intro | refine ⟨_, LeL.refl _, ?_⟩ | refine ⟨_, _, _, LeL.refl _, ?_⟩ | (refine fun (b : Bool) hb => ?_; cases b <;> (first | exact absurd hb (by decide) | exact Bool.noConfusion (show true = false from hb) | exact Bool.noConfusion (show false = true from hb) | skip)) | (refine fun (hl : _ ≤ MAXL) => ?_) | refine And.intro (a := I64 _) ?_ ?_ | refine And.intro (a := _ ≤ 140737488355328) ?_ ?_ | refine ⟨_, ⟨rfl, rfl⟩, ?_⟩ | refine ⟨_, And.intro (a := I64 _) ?_ ⟨rfl, rfl⟩, ?_⟩ | refine ⟨_, _, ⟨rfl, rfl⟩, ?_⟩ | refine ⟨_, (fun _ => ⟨rfl, rfl⟩), ?_⟩ | refine And.intro (a := chkPend _ _ _ _ _ _) ?_ ?_ | refine And.intro (a := chkPast _ _ _ _ _ _ _ _) ?_ ?_ | refine ⟨⟨rfl, rfl⟩, ?_⟩ | refine And.intro (And.intro rfl rfl) ?_ | refine ⟨True.intro, ?_⟩ | refine ⟨_, ⟨_, rfl, ?_, rfl, rfl, rfl⟩, ?_⟩ | refine ⟨_, rfl, ?_, rfl, ?_⟩ | refine ⟨_, (fun _ => rfl), rfl, ?_⟩ | refine ⟨(fun _ => rfl), ?_⟩ | refine ⟨rfl, ?_⟩ | refine Opt.a ?_ | fail)
  · -- all came
    have h : ¬ (i : Int) < (l.length : Int) := of_decide_eq_false (by assumption)
    have e : i = l.length := by omega
    have h6 : c.kind ≠ 6 := of_decide_eq_false (by assumption)
    have h8 : c.kind ≠ 8 := of_decide_eq_false (by assumption)
    rw [e, accM_end h6 h8] at ho
    conv => whnf
    exact hK _ (by rw [← ho])
  · have h8 : c.kind = 8 := of_decide_eq_true (by assumption)
    refine ⟨l.length, rfl, ⟨by omega, by omega⟩, ?_⟩
    repeat' (first | exact True.intro | refine ⟨_, LeL.refl _, ?_⟩ | refine ⟨_, _, _, LeL.refl _, ?_⟩ | (refine fun (b : Bool) hb => ?_; cases b <;> (first | exact absurd hb (by decide) | exact Bool.noConfusion (show true = false from hb) | exact Bool.noConfusion (show false = true from hb) | skip)) | (refine fun (hl : _ ≤ MAXL) => ?_) | refine And.intro (a := I64 _) ?_ ?_ | refine And.intro (a := _ ≤ 140737488355328) ?_ ?_ | refine ⟨_, ⟨rfl, rfl⟩, ?_⟩ | refine ⟨_, And.intro (a := I64 _) ?_ ⟨rfl, rfl⟩, ?_⟩ | refine ⟨_, _, ⟨rfl, rfl⟩, ?_⟩ | refine ⟨_, (fun _ => ⟨rfl, rfl⟩), ?_⟩ | refine And.intro (a := chkPend _ _ _ _ _ _) ?_ ?_ | refine And.intro (a := chkPast _ _ _ _ _ _ _ _) ?_ ?_ | refine ⟨⟨rfl, rfl⟩, ?_⟩ | refine And.intro (And.intro rfl rfl) ?_ | refine ⟨True.intro, ?_⟩ | refine ⟨_, ⟨_, rfl, ?_, rfl, rfl, rfl⟩, ?_⟩ | refine ⟨_, rfl, ?_, rfl, ?_⟩ | refine ⟨_, (fun _ => rfl), rfl, ?_⟩ | refine ⟨(fun _ => rfl), ?_⟩ | refine ⟨rfl, ?_⟩ | refine Opt.a ?_ | fail)
    refine ⟨Bs, strV, [Lib.itoa l.length], LeL.refl _, ?_⟩
    refine hK _ ?_
    unfold linesC
    rw [if_neg (by omega), if_neg (by omega), if_pos h8]
  · have h6 : c.kind = 6 := of_decide_eq_true (by assumption)
    repeat' (first | exact True.intro | refine ⟨_, LeL.refl _, ?_⟩ | refine ⟨_, _, _, LeL.refl _, ?_⟩ | (refine fun (b : Bool) hb => ?_; cases b <;> (first | exact absurd hb (by decide) | exact Bool.noConfusion (show true = false from hb) | exact Bool.noConfusion (show false = true from hb) | skip)) | (refine fun (hl : _ ≤ MAXL) => ?_) | refine And.intro (a := I64 _) ?_ ?_ | refine And.intro (a := _ ≤ 140737488355328) ?_ ?_ | refine ⟨_, ⟨rfl, rfl⟩, ?_⟩ | refine ⟨_, And.intro (a := I64 _) ?_ ⟨rfl, rfl⟩, ?_⟩ | refine ⟨_, _, ⟨rfl, rfl⟩, ?_⟩ | refine ⟨_, (fun _ => ⟨rfl, rfl⟩), ?_⟩ | refine And.intro (a := chkPend _ _ _ _ _ _) ?_ ?_ | refine And.intro (a := chkPast _ _ _ _ _ _ _ _) ?_ ?_ | refine ⟨⟨rfl, rfl⟩, ?_⟩ | refine And.intro (And.intro rfl rfl) ?_ | refine ⟨True.intro, ?_⟩ | refine ⟨_, ⟨_, rfl, ?_, rfl, rfl, rfl⟩, ?_⟩ | refine ⟨_, rfl, ?_, rfl, ?_⟩ | refine ⟨_, (fun _ => rfl), rfl, ?_⟩ | refine ⟨(fun _ => rfl), ?_⟩ | refine ⟨rfl, ?_⟩ | refine Opt.a ?_ | fail)
    have h : ¬ (i : Int) < (l.length : Int) := of_decide_eq_false (by assumption)
    have e : i = l.length := by omega
    have ho6 : out = l := by rw [ho, e]; unfold accM; rw [if_pos h6, List.take_length]
    refine .inl ⟨out, rfl, rfl, by omega, ?_⟩
    repeat' (first | exact True.intro | refine ⟨_, LeL.refl _, ?_⟩ | refine ⟨_, _, _, LeL.refl _, ?_⟩ | (refine fun (b : Bool) hb => ?_; cases b <;> (first | exact absurd hb (by decide) | exact Bool.noConfusion (show true = false from hb) | exact Bool.noConfusion (show false = true from hb) | skip)) | (refine fun (hl : _ ≤ MAXL) => ?_) | refine And.intro (a := I64 _) ?_ ?_ | refine And.intro (a := _ ≤ 140737488355328) ?_ ?_ | refine ⟨_, ⟨rfl, rfl⟩, ?_⟩ | refine ⟨_, And.intro (a := I64 _) ?_ ⟨rfl, rfl⟩, ?_⟩ | refine ⟨_, _, ⟨rfl, rfl⟩, ?_⟩ | refine ⟨_, (fun _ => ⟨rfl, rfl⟩), ?_⟩ | refine And.intro (a := chkPend _ _ _ _ _ _) ?_ ?_ | refine And.intro (a := chkPast _ _ _ _ _ _ _ _) ?_ ?_ | refine ⟨⟨rfl, rfl⟩, ?_⟩ | refine And.intro (And.intro rfl rfl) ?_ | refine ⟨True.intro, ?_⟩ | refine ⟨_, ⟨_, rfl, ?_, rfl, rfl, rfl⟩, ?_⟩ | refine ⟨_, rfl, ?_, rfl, ?_⟩ | refine ⟨_, (fun _ => rfl), rfl, ?_⟩ | refine ⟨(fun _ => rfl), ?_⟩ | refine ⟨rfl, ?_⟩ | refine Opt.a ?_ | fail)
    · refine hK _ ?_
      unfold linesC
      rw [if_pos h6, ho6]
    · have h8 : c.kind = 8 := of_decide_eq_true (by assumption)
      omega
  · have h := of_decide_eq_true (by assumption : decide ((i : Int) < (l.length : Int)) = true)
    show i < l.length
    omega
  have hlt : i < l.length := by
    have h := of_decide_eq_true (by assumption : decide ((i : Int) < (l.length : Int)) = true)
    omega
  have hsi := hs _ (List.getElem_mem hlt)
  conv => whnf
  refine join_live [1, 2, 5, 14, 15, 16] (σ := Bs × Bool) (fun s => [(7, .str s.1), (8, .bool s.2)]) (fun _ => [.box (cmdV c).cells, .row 1 (out.map strV)]) (fun s => accM c l (i + 1) = out ++ (if s.2 = true then [s.1] else [])) ?_
  conv => whnf
  refine ⟨?_, fun s hst => ?_⟩
  · have hk10 : c.kind = 1 ∨ c.kind = 2 ∨ c.kind = 3 ∨ c.kind = 4 ∨ c.kind = 5 ∨ c.kind = 6 ∨ c.kind = 7 ∨ c.kind = 8 ∨ c.kind = 9 ∨ c.kind = 10 := by omega
    obtain ⟨ck, cw, cn⟩ := c
    dsimp only at hk10
    rcases hk10 with rfl | rfl | rfl | rfl | rfl | rfl | rfl | rfl | rfl | rfl
    · repeat' (first | exact True.intro | refine ⟨_, LeL.refl _, ?_⟩ | refine ⟨_, _, _, LeL.refl _, ?_⟩ | (refine fun (b : Bool) hb => ?_; cases b <;> (first | exact absurd hb (by decide) | exact Bool.noConfusion (show true = false from hb) | exact Bool.noConfusion (show false = true from hb) | skip)) | (refine fun (hl : _ ≤ MAXL) => ?_) | refine And.intro (a := I64 _) ?_ ?_ | refine And.intro (a := _ ≤ 140737488355328) ?_ ?_ | refine ⟨_, ⟨rfl, rfl⟩, ?_⟩ | refine ⟨_, And.intro (a := I64 _) ?_ ⟨rfl, rfl⟩, ?_⟩ | refine ⟨_, _, ⟨rfl, rfl⟩, ?_⟩ | refine ⟨_, (fun _ => ⟨rfl, rfl⟩), ?_⟩ | refine And.intro (a := chkPend _ _ _ _ _ _) ?_ ?_ | refine And.intro (a := chkPast _ _ _ _ _ _ _ _) ?_ ?_ | refine ⟨⟨rfl, rfl⟩, ?_⟩ | refine And.intro (And.intro rfl rfl) ?_ | refine ⟨True.intro, ?_⟩ | refine ⟨_, ⟨_, rfl, ?_, rfl, rfl, rfl⟩, ?_⟩ | refine ⟨_, rfl, ?_, rfl, ?_⟩ | refine ⟨_, (fun _ => rfl), rfl, ?_⟩ | refine ⟨(fun _ => rfl), ?_⟩ | refine ⟨rfl, ?_⟩ | refine Opt.a ?_ | fail)
      refine ⟨l[i], cw, rfl, by omega, ?_⟩
      repeat' (first | exact True.intro | refine ⟨_, LeL.refl _, ?_⟩ | refine ⟨_, _, _, LeL.refl _, ?_⟩ | (refine fun (b : Bool) hb => ?_; cases b <;> (first | exact absurd hb (by decide) | exact Bool.noConfusion (show true = false from hb) | exact Bool.noConfusion (show false = true from hb) | skip)) | (refine fun (hl : _ ≤ MAXL) => ?_) | refine And.intro (a := I64 _) ?_ ?_ | refine And.intro (a := _ ≤ 140737488355328) ?_ ?_ | refine ⟨_, ⟨rfl, rfl⟩, ?_⟩ | refine ⟨_, And.intro (a := I64 _) ?_ ⟨rfl, rfl⟩, ?_⟩ | refine ⟨_, _, ⟨rfl, rfl⟩, ?_⟩ | refine ⟨_, (fun _ => ⟨rfl, rfl⟩), ?_⟩ | refine And.intro (a := chkPend _ _ _ _ _ _) ?_ ?_ | refine And.intro (a := chkPast _ _ _ _ _ _ _ _) ?_ ?_ | refine ⟨⟨rfl, rfl⟩, ?_⟩ | refine And.intro (And.intro rfl rfl) ?_ | refine ⟨True.intro, ?_⟩ | refine ⟨_, ⟨_, rfl, ?_, rfl, rfl, rfl⟩, ?_⟩ | refine ⟨_, rfl, ?_, rfl, ?_⟩ | refine ⟨_, (fun _ => rfl), rfl, ?_⟩ | refine ⟨(fun _ => rfl), ?_⟩ | refine ⟨rfl, ?_⟩ | refine Opt.a ?_ | fail)
      refine ⟨(l[i], Lib.contains l[i] cw), (by (refine wk_auto ?_; refine Sel4.mk rfl rfl ?_ ?_ <;> (repeat' (first | exact True.intro | exact rfl | exact Or.inl rfl | exact Or.inr rfl | refine And.intro ?_ ?_ | fail)))), ?_⟩
      rw [accM_each hlt (by show (1 : Int) < 6; decide), ← ho]
      cases h : Lib.contains l[i] cw <;> simp [oneC, h]
    · repeat' (first | exact True.intro | refine ⟨_, LeL.refl _, ?_⟩ | refine ⟨_, _, _, LeL.refl _, ?_⟩ | (refine fun (b : Bool) hb => ?_; cases b <;> (first | exact absurd hb (by decide) | exact Bool.noConfusion (show true = false from hb) | exact Bool.noConfusion (show false = true from hb) | skip)) | (refine fun (hl : _ ≤ MAXL) => ?_) | refine And.intro (a := I64 _) ?_ ?_ | refine And.intro (a := _ ≤ 140737488355328) ?_ ?_ | refine ⟨_, ⟨rfl, rfl⟩, ?_⟩ | refine ⟨_, And.intro (a := I64 _) ?_ ⟨rfl, rfl⟩, ?_⟩ | refine ⟨_, _, ⟨rfl, rfl⟩, ?_⟩ | refine ⟨_, (fun _ => ⟨rfl, rfl⟩), ?_⟩ | refine And.intro (a := chkPend _ _ _ _ _ _) ?_ ?_ | refine And.intro (a := chkPast _ _ _ _ _ _ _ _) ?_ ?_ | refine ⟨⟨rfl, rfl⟩, ?_⟩ | refine And.intro (And.intro rfl rfl) ?_ | refine ⟨True.intro, ?_⟩ | refine ⟨_, ⟨_, rfl, ?_, rfl, rfl, rfl⟩, ?_⟩ | refine ⟨_, rfl, ?_, rfl, ?_⟩ | refine ⟨_, (fun _ => rfl), rfl, ?_⟩ | refine ⟨(fun _ => rfl), ?_⟩ | refine ⟨rfl, ?_⟩ | refine Opt.a ?_ | fail)
      refine ⟨l[i], cw, rfl, by omega, ?_⟩
      repeat' (first | exact True.intro | refine ⟨_, LeL.refl _, ?_⟩ | refine ⟨_, _, _, LeL.refl _, ?_⟩ | (refine fun (b : Bool) hb => ?_; cases b <;> (first | exact absurd hb (by decide) | exact Bool.noConfusion (show true = false from hb) | exact Bool.noConfusion (show false = true from hb) | skip)) | (refine fun (hl : _ ≤ MAXL) => ?_) | refine And.intro (a := I64 _) ?_ ?_ | refine And.intro (a := _ ≤ 140737488355328) ?_ ?_ | refine ⟨_, ⟨rfl, rfl⟩, ?_⟩ | refine ⟨_, And.intro (a := I64 _) ?_ ⟨rfl, rfl⟩, ?_⟩ | refine ⟨_, _, ⟨rfl, rfl⟩, ?_⟩ | refine ⟨_, (fun _ => ⟨rfl, rfl⟩), ?_⟩ | refine And.intro (a := chkPend _ _ _ _ _ _) ?_ ?_ | refine And.intro (a := chkPast _ _ _ _ _ _ _ _) ?_ ?_ | refine ⟨⟨rfl, rfl⟩, ?_⟩ | refine And.intro (And.intro rfl rfl) ?_ | refine ⟨True.intro, ?_⟩ | refine ⟨_, ⟨_, rfl, ?_, rfl, rfl, rfl⟩, ?_⟩ | refine ⟨_, rfl, ?_, rfl, ?_⟩ | refine ⟨_, (fun _ => rfl), rfl, ?_⟩ | refine ⟨(fun _ => rfl), ?_⟩ | refine ⟨rfl, ?_⟩ | refine Opt.a ?_ | fail)
      refine ⟨(l[i], !Lib.contains l[i] cw), (by (refine wk_auto ?_; refine Sel4.mk rfl rfl ?_ ?_ <;> (repeat' (first | exact True.intro | exact rfl | exact Or.inl rfl | exact Or.inr rfl | refine And.intro ?_ ?_ | fail)))), ?_⟩
      rw [accM_each hlt (by show (2 : Int) < 6; decide), ← ho]
      cases h : Lib.contains l[i] cw <;> simp [oneC, h]
    · obtain ⟨x, y, hw⟩ := word2 hc rfl
      dsimp only at hw
      subst hw
      repeat' (first | exact True.intro | refine ⟨_, LeL.refl _, ?_⟩ | refine ⟨_, _, _, LeL.refl _, ?_⟩ | (refine fun (b : Bool) hb => ?_; cases b <;> (first | exact absurd hb (by decide) | exact Bool.noConfusion (show true = false from hb) | exact Bool.noConfusion (show false = true from hb) | skip)) | (refine fun (hl : _ ≤ MAXL) => ?_) | refine And.intro (a := I64 _) ?_ ?_ | refine And.intro (a := _ ≤ 140737488355328) ?_ ?_ | refine ⟨_, ⟨rfl, rfl⟩, ?_⟩ | refine ⟨_, And.intro (a := I64 _) ?_ ⟨rfl, rfl⟩, ?_⟩ | refine ⟨_, _, ⟨rfl, rfl⟩, ?_⟩ | refine ⟨_, (fun _ => ⟨rfl, rfl⟩), ?_⟩ | refine And.intro (a := chkPend _ _ _ _ _ _) ?_ ?_ | refine And.intro (a := chkPast _ _ _ _ _ _ _ _) ?_ ?_ | refine ⟨⟨rfl, rfl⟩, ?_⟩ | refine And.intro (And.intro rfl rfl) ?_ | refine ⟨True.intro, ?_⟩ | refine ⟨_, ⟨_, rfl, ?_, rfl, rfl, rfl⟩, ?_⟩ | refine ⟨_, rfl, ?_, rfl, ?_⟩ | refine ⟨_, (fun _ => rfl), rfl, ?_⟩ | refine ⟨(fun _ => rfl), ?_⟩ | refine ⟨rfl, ?_⟩ | refine Opt.b ?_ | fail)
      · exact Nat.le_trans hsi (by decide)
      repeat' (first | exact True.intro | refine ⟨_, LeL.refl _, ?_⟩ | refine ⟨_, _, _, LeL.refl _, ?_⟩ | (refine fun (b : Bool) hb => ?_; cases b <;> (first | exact absurd hb (by decide) | exact Bool.noConfusion (show true = false from hb) | exact Bool.noConfusion (show false = true from hb) | skip)) | (refine fun (hl : _ ≤ MAXL) => ?_) | refine And.intro (a := I64 _) ?_ ?_ | refine And.intro (a := _ ≤ 140737488355328) ?_ ?_ | refine ⟨_, ⟨rfl, rfl⟩, ?_⟩ | refine ⟨_, And.intro (a := I64 _) ?_ ⟨rfl, rfl⟩, ?_⟩ | refine ⟨_, _, ⟨rfl, rfl⟩, ?_⟩ | refine ⟨_, (fun _ => ⟨rfl, rfl⟩), ?_⟩ | refine And.intro (a := chkPend _ _ _ _ _ _) ?_ ?_ | refine And.intro (a := chkPast _ _ _ _ _ _ _ _) ?_ ?_ | refine ⟨⟨rfl, rfl⟩, ?_⟩ | refine And.intro (And.intro rfl rfl) ?_ | refine ⟨True.intro, ?_⟩ | refine ⟨_, ⟨_, rfl, ?_, rfl, rfl, rfl⟩, ?_⟩ | refine ⟨_, rfl, ?_, rfl, ?_⟩ | refine ⟨_, (fun _ => rfl), rfl, ?_⟩ | refine ⟨(fun _ => rfl), ?_⟩ | refine ⟨rfl, ?_⟩ | refine Opt.a ?_ | fail)
      conv => whnf
      refine loop_live [1, 2, 5, 8, 9, 14, 15, 16, 41] (σ := Nat × Bs) (fun s => [(42, .int .i64 s.1), (9, .own 2)]) (fun s => [.box (cmdV ⟨3, [x, y], cn⟩).cells, .row 1 (out.map strV), .row 1 (s.2.map byteV)]) (fun s => s.2 = (l[i].take s.1).map (fun z => if z = x then y else z) ++ l[i].drop s.1 ∧ s.1 ≤ l[i].length) (fun s => l[i].length - s.1) (0, l[i]) ?_
      conv => whnf
      refine ⟨(by (refine wk_auto ?_; refine Sel4.mk rfl rfl ?_ ?_ <;> (repeat' (first | exact True.intro | exact rfl | exact Or.inl rfl | exact Or.inr rfl | refine And.intro ?_ ?_ | fail)))), ⟨by simp, Nat.zero_le _⟩, fun s hs => ?_⟩
      obtain ⟨k, d⟩ := s
      obtain ⟨hd, hk⟩ := hs
      dsimp only at hd hk
      have hdl : d.length = l[i].length := by rw [hd]; simp; omega
      repeat' (first | exact True.intro | refine ⟨_, LeL.refl _, ?_⟩ | refine ⟨_, _, _, LeL.refl _, ?_⟩ | (refine fun (b : Bool) hb => ?_; cases b <;> (first | exact absurd hb (by decide) | exact Bool.noConfusion (show true = false from hb) | exact Bool.noConfusion (show false = true from hb) | skip)) | (refine fun (hl : _ ≤ MAXL) => ?_) | refine And.intro (a := I64 _) ?_ ?_ | refine And.intro (a := _ ≤ 140737488355328) ?_ ?_ | refine ⟨_, ⟨rfl, rfl⟩, ?_⟩ | refine ⟨_, And.intro (a := I64 _) ?_ ⟨rfl, rfl⟩, ?_⟩ | refine ⟨_, _, ⟨rfl, rfl⟩, ?_⟩ | refine ⟨_, (fun _ => ⟨rfl, rfl⟩), ?_⟩ | refine And.intro (a := chkPend _ _ _ _ _ _) ?_ ?_ | refine And.intro (a := chkPast _ _ _ _ _ _ _ _) ?_ ?_ | refine ⟨⟨rfl, rfl⟩, ?_⟩ | refine And.intro (And.intro rfl rfl) ?_ | refine ⟨True.intro, ?_⟩ | refine ⟨_, ⟨_, rfl, ?_, rfl, rfl, rfl⟩, ?_⟩ | refine ⟨_, rfl, ?_, rfl, ?_⟩ | refine ⟨_, (fun _ => rfl), rfl, ?_⟩ | refine ⟨(fun _ => rfl), ?_⟩ | refine ⟨rfl, ?_⟩ | refine Opt.a ?_ | fail)
      · have hge : ¬ (k : Int) < ((l[i].map byteV).length : Int) := of_decide_eq_false (by assumption)
        rw [List.length_map] at hge
        have ek : k = l[i].length := by omega
        refine ⟨d, rfl, rfl, ?_⟩
        repeat' (first | exact True.intro | refine ⟨_, LeL.refl _, ?_⟩ | refine ⟨_, _, _, LeL.refl _, ?_⟩ | (refine fun (b : Bool) hb => ?_; cases b <;> (first | exact absurd hb (by decide) | exact Bool.noConfusion (show true = false from hb) | exact Bool.noConfusion (show false = true from hb) | skip)) | (refine fun (hl : _ ≤ MAXL) => ?_) | refine And.intro (a := I64 _) ?_ ?_ | refine And.intro (a := _ ≤ 140737488355328) ?_ ?_ | refine ⟨_, ⟨rfl, rfl⟩, ?_⟩ | refine ⟨_, And.intro (a := I64 _) ?_ ⟨rfl, rfl⟩, ?_⟩ | refine ⟨_, _, ⟨rfl, rfl⟩, ?_⟩ | refine ⟨_, (fun _ => ⟨rfl, rfl⟩), ?_⟩ | refine And.intro (a := chkPend _ _ _ _ _ _) ?_ ?_ | refine And.intro (a := chkPast _ _ _ _ _ _ _ _) ?_ ?_ | refine ⟨⟨rfl, rfl⟩, ?_⟩ | refine And.intro (And.intro rfl rfl) ?_ | refine ⟨True.intro, ?_⟩ | refine ⟨_, ⟨_, rfl, ?_, rfl, rfl, rfl⟩, ?_⟩ | refine ⟨_, rfl, ?_, rfl, ?_⟩ | refine ⟨_, (fun _ => rfl), rfl, ?_⟩ | refine ⟨(fun _ => rfl), ?_⟩ | refine ⟨rfl, ?_⟩ | refine Opt.a ?_ | fail)
        refine ⟨(d, true), (by (refine wk_auto ?_; refine Sel4.mk rfl rfl ?_ ?_ <;> (repeat' (first | exact True.intro | exact rfl | exact Or.inl rfl | exact Or.inr rfl | refine And.intro ?_ ?_ | fail)))), ?_⟩
        rw [accM_each hlt (by show (3 : Int) < 6; decide), ← ho, hd, ek]
        rw [one_3]
        simp
      have hkl : k < l[i].length := by
        have h := of_decide_eq_true (by assumption : decide ((k : Int) < ((l[i].map byteV).length : Int)) = true)
        rw [List.length_map] at h
        omega
      have hkd : k < d.length := by omega
      have gk : (List.map byteV d)[k]? = some (byteV d[k]) := by rw [List.getElem?_map, List.getElem?_eq_getElem hkd]; rfl
      have edk : d[k] = l[i][k] := mp_eq hkl hd hkd
      have hnx := mp_set (fun z => if z = x then y else z) hkl
      rw [← hd, ← edk] at hnx
      conv => whnf
      refine ⟨_, ⟨rfl, k, rfl, by simpa using hkd, ⟨rfl, rfl⟩⟩, ?_⟩
      repeat' (first | exact True.intro | refine ⟨_, LeL.refl _, ?_⟩ | refine ⟨_, _, _, LeL.refl _, ?_⟩ | (refine fun (b : Bool) hb => ?_; cases b <;> (first | exact absurd hb (by decide) | exact Bool.noConfusion (show true = false from hb) | exact Bool.noConfusion (show false = true from hb) | skip)) | (refine fun (hl : _ ≤ MAXL) => ?_) | refine And.intro (a := I64 _) ?_ ?_ | refine And.intro (a := _ ≤ 140737488355328) ?_ ?_ | refine ⟨_, ⟨rfl, rfl⟩, ?_⟩ | refine ⟨_, And.intro (a := I64 _) ?_ ⟨rfl, rfl⟩, ?_⟩ | refine ⟨_, _, ⟨rfl, rfl⟩, ?_⟩ | refine ⟨_, (fun _ => ⟨rfl, rfl⟩), ?_⟩ | refine And.intro (a := chkPend _ _ _ _ _ _) ?_ ?_ | refine And.intro (a := chkPast _ _ _ _ _ _ _ _) ?_ ?_ | refine ⟨⟨rfl, rfl⟩, ?_⟩ | refine And.intro (And.intro rfl rfl) ?_ | refine ⟨True.intro, ?_⟩ | refine ⟨_, ⟨_, rfl, ?_, rfl, rfl, rfl⟩, ?_⟩ | refine ⟨_, rfl, ?_, rfl, ?_⟩ | refine ⟨_, (fun _ => rfl), rfl, ?_⟩ | refine ⟨(fun _ => rfl), ?_⟩ | refine ⟨rfl, ?_⟩ | refine Opt.a ?_ | fail)
      conv => whnf
      refine ⟨_, ⟨_, gk, ⟨rfl, rfl⟩⟩, ?_⟩
      repeat' (first | exact True.intro | refine ⟨_, LeL.refl _, ?_⟩ | refine ⟨_, _, _, LeL.refl _, ?_⟩ | (refine fun (b : Bool) hb => ?_; cases b <;> (first | exact absurd hb (by decide) | exact Bool.noConfusion (show true = false from hb) | exact Bool.noConfusion (show false = true from hb) | skip)) | (refine fun (hl : _ ≤ MAXL) => ?_) | refine And.intro (a := I64 _) ?_ ?_ | refine And.intro (a := _ ≤ 140737488355328) ?_ ?_ | refine ⟨_, ⟨rfl, rfl⟩, ?_⟩ | refine ⟨_, And.intro (a := I64 _) ?_ ⟨rfl, rfl⟩, ?_⟩ | refine ⟨_, _, ⟨rfl, rfl⟩, ?_⟩ | refine ⟨_, (fun _ => ⟨rfl, rfl⟩), ?_⟩ | refine And.intro (a := chkPend _ _ _ _ _ _) ?_ ?_ | refine And.intro (a := chkPast _ _ _ _ _ _ _ _) ?_ ?_ | refine ⟨⟨rfl, rfl⟩, ?_⟩ | refine And.intro (And.intro rfl rfl) ?_ | refine ⟨True.intro, ?_⟩ | refine ⟨_, ⟨_, rfl, ?_, rfl, rfl, rfl⟩, ?_⟩ | refine ⟨_, rfl, ?_, rfl, ?_⟩ | refine ⟨_, (fun _ => rfl), rfl, ?_⟩ | refine ⟨(fun _ => rfl), ?_⟩ | refine ⟨rfl, ?_⟩ | refine Opt.a ?_ | fail)
      conv => whnf
      refine ⟨_, ⟨0, rfl, (by show 0 < 2; decide), rfl, rfl⟩, ?_⟩
      repeat' (first | exact True.intro | refine ⟨_, LeL.refl _, ?_⟩ | refine ⟨_, _, _, LeL.refl _, ?_⟩ | (refine fun (b : Bool) hb => ?_; cases b <;> (first | exact absurd hb (by decide) | exact Bool.noConfusion (show true = false from hb) | exact Bool.noConfusion (show false = true from hb) | skip)) | (refine fun (hl : _ ≤ MAXL) => ?_) | refine And.intro (a := I64 _) ?_ ?_ | refine And.intro (a := _ ≤ 140737488355328) ?_ ?_ | refine ⟨_, ⟨rfl, rfl⟩, ?_⟩ | refine ⟨_, And.intro (a := I64 _) ?_ ⟨rfl, rfl⟩, ?_⟩ | refine ⟨_, _, ⟨rfl, rfl⟩, ?_⟩ | refine ⟨_, (fun _ => ⟨rfl, rfl⟩), ?_⟩ | refine And.intro (a := chkPend _ _ _ _ _ _) ?_ ?_ | refine And.intro (a := chkPast _ _ _ _ _ _ _ _) ?_ ?_ | refine ⟨⟨rfl, rfl⟩, ?_⟩ | refine And.intro (And.intro rfl rfl) ?_ | refine ⟨True.intro, ?_⟩ | refine ⟨_, ⟨_, rfl, ?_, rfl, rfl, rfl⟩, ?_⟩ | refine ⟨_, rfl, ?_, rfl, ?_⟩ | refine ⟨_, (fun _ => rfl), rfl, ?_⟩ | refine ⟨(fun _ => rfl), ?_⟩ | refine ⟨rfl, ?_⟩ | refine Opt.a ?_ | fail)
      · unfold I64
        dsimp only
        omega
      · have hne : ¬ ((d[k].toNat : Int) = (x.toNat : Int)) := of_decide_eq_false (by assumption)
        have hne2 : ¬ d[k] = x := fun e => hne (by rw [e])
        refine ⟨(k + 1, d), (by (refine wk_auto ?_; refine Sel4.mk rfl rfl ?_ ?_ <;> (repeat' (first | exact True.intro | exact rfl | exact Or.inl rfl | exact Or.inr rfl | refine And.intro ?_ ?_ | fail)))), ⟨?_, hkl⟩, ?_⟩
        · show d = _
          rw [hnx, if_neg hne2, List.set_getElem_self]
        · show l[i].length - (k + 1) < l[i].length - k
          omega
      · show 2 ≤ 2
        decide
      have heq : ((d[k].toNat : Int) = (x.toNat : Int)) := of_decide_eq_true (by assumption)
      have heq2 : d[k] = x := UInt8.toNat_inj.1 (by omega)
      rw [if_pos heq2] at hnx
      refine ⟨k, rfl, by simpa using hkd, ?_⟩
      conv => whnf
      refine ⟨by simpa using hkd, ?_⟩
      repeat' (first | exact True.intro | refine ⟨_, LeL.refl _, ?_⟩ | refine ⟨_, _, _, LeL.refl _, ?_⟩ | (refine fun (b : Bool) hb => ?_; cases b <;> (first | exact absurd hb (by decide) | exact Bool.noConfusion (show true = false from hb) | exact Bool.noConfusion (show false = true from hb) | skip)) | (refine fun (hl : _ ≤ MAXL) => ?_) | refine And.intro (a := I64 _) ?_ ?_ | refine And.intro (a := _ ≤ 140737488355328) ?_ ?_ | refine ⟨_, ⟨rfl, rfl⟩, ?_⟩ | refine ⟨_, And.intro (a := I64 _) ?_ ⟨rfl, rfl⟩, ?_⟩ | refine ⟨_, _, ⟨rfl, rfl⟩, ?_⟩ | refine ⟨_, (fun _ => ⟨rfl, rfl⟩), ?_⟩ | refine And.intro (a := chkPend _ _ _ _ _ _) ?_ ?_ | refine And.intro (a := chkPast _ _ _ _ _ _ _ _) ?_ ?_ | refine ⟨⟨rfl, rfl⟩, ?_⟩ | refine And.intro (And.intro rfl rfl) ?_ | refine ⟨True.intro, ?_⟩ | refine ⟨_, ⟨_, rfl, ?_, rfl, rfl, rfl⟩, ?_⟩ | refine ⟨_, rfl, ?_, rfl, ?_⟩ | refine ⟨_, (fun _ => rfl), rfl, ?_⟩ | refine ⟨(fun _ => rfl), ?_⟩ | refine ⟨rfl, ?_⟩ | refine Opt.a ?_ | fail)
      · unfold I64
        dsimp only
        omega
      refine ⟨(k + 1, d.set k y), ?_, ⟨?_, hkl⟩, ?_⟩
      rotate_left
      · show d.set k y = _
        rw [hnx]
      · show l[i].length - (k + 1) < l[i].length - k
        omega
      (refine wk_auto ?_; refine Sel4.mk rfl rfl ?_ ?_ <;> (repeat' (first | exact True.intro | exact rfl | exact Or.inl rfl | exact Or.inr rfl | refine And.intro ?_ ?_ | fail)))
      show Row.row 1 _ = Row.row 1 _
      simp [List.map_set]
      rfl
    · have hn1 : 1 ≤ cn ∧ cn ≤ 1000 := by
        unfold checkCmd useN at hc
        grind
      have hsn : 0 < (Lib.split l[i] [32]).length := List.length_pos_iff.2 (split_ne l[i] [32])
      repeat' (first | exact True.intro | refine ⟨_, LeL.refl _, ?_⟩ | refine ⟨_, _, _, LeL.refl _, ?_⟩ | (refine fun (b : Bool) hb => ?_; cases b <;> (first | exact absurd hb (by decide) | exact Bool.noConfusion (show true = false from hb) | exact Bool.noConfusion (show false = true from hb) | skip)) | (refine fun (hl : _ ≤ MAXL) => ?_) | refine And.intro (a := I64 _) ?_ ?_ | refine And.intro (a := _ ≤ 140737488355328) ?_ ?_ | refine ⟨_, ⟨rfl, rfl⟩, ?_⟩ | refine ⟨_, And.intro (a := I64 _) ?_ ⟨rfl, rfl⟩, ?_⟩ | refine ⟨_, _, ⟨rfl, rfl⟩, ?_⟩ | refine ⟨_, (fun _ => ⟨rfl, rfl⟩), ?_⟩ | refine And.intro (a := chkPend _ _ _ _ _ _) ?_ ?_ | refine And.intro (a := chkPast _ _ _ _ _ _ _ _) ?_ ?_ | refine ⟨⟨rfl, rfl⟩, ?_⟩ | refine And.intro (And.intro rfl rfl) ?_ | refine ⟨True.intro, ?_⟩ | refine ⟨_, ⟨_, rfl, ?_, rfl, rfl, rfl⟩, ?_⟩ | refine ⟨_, rfl, ?_, rfl, ?_⟩ | refine ⟨_, (fun _ => rfl), rfl, ?_⟩ | refine ⟨(fun _ => rfl), ?_⟩ | refine ⟨rfl, ?_⟩ | refine Opt.a ?_ | fail)
      refine ⟨l[i], [32], rfl, ⟨by omega, by decide⟩, ?_⟩
      repeat' (first | exact True.intro | refine ⟨_, LeL.refl _, ?_⟩ | refine ⟨_, _, _, LeL.refl _, ?_⟩ | (refine fun (b : Bool) hb => ?_; cases b <;> (first | exact absurd hb (by decide) | exact Bool.noConfusion (show true = false from hb) | exact Bool.noConfusion (show false = true from hb) | skip)) | (refine fun (hl : _ ≤ MAXL) => ?_) | refine And.intro (a := I64 _) ?_ ?_ | refine And.intro (a := _ ≤ 140737488355328) ?_ ?_ | refine ⟨_, ⟨rfl, rfl⟩, ?_⟩ | refine ⟨_, And.intro (a := I64 _) ?_ ⟨rfl, rfl⟩, ?_⟩ | refine ⟨_, _, ⟨rfl, rfl⟩, ?_⟩ | refine ⟨_, (fun _ => ⟨rfl, rfl⟩), ?_⟩ | refine And.intro (a := chkPend _ _ _ _ _ _) ?_ ?_ | refine And.intro (a := chkPast _ _ _ _ _ _ _ _) ?_ ?_ | refine ⟨⟨rfl, rfl⟩, ?_⟩ | refine And.intro (And.intro rfl rfl) ?_ | refine ⟨True.intro, ?_⟩ | refine ⟨_, ⟨_, rfl, ?_, rfl, rfl, rfl⟩, ?_⟩ | refine ⟨_, rfl, ?_, rfl, ?_⟩ | refine ⟨_, (fun _ => rfl), rfl, ?_⟩ | refine ⟨(fun _ => rfl), ?_⟩ | refine ⟨rfl, ?_⟩ | refine Opt.a ?_ | fail)
      · have hle : ¬ cn ≤ ((Lib.split l[i] [32]).length : Int) := of_decide_eq_false (by assumption)
        refine ⟨([], true), (by (refine wk_auto ?_; refine Sel4.mk rfl rfl ?_ ?_ <;> (repeat' (first | exact True.intro | exact rfl | exact Or.inl rfl | exact Or.inr rfl | refine And.intro ?_ ?_ | fail)))), ?_⟩
        rw [accM_each hlt (by show (4 : Int) < 6; decide), ← ho]
        have h2 : ((Lib.split l[i] [32]).length : Int) < cn := by omega
        simp [oneC, h2]
      · unfold I64
        dsimp only
        omega
      · have hle : cn ≤ ((Lib.split l[i] [32]).length : Int) := of_decide_eq_true (by assumption)
        have hj : (cn - 1).toNat < (Lib.split l[i] [32]).length := by omega
        refine ⟨(cn - 1).toNat, by show cn - 1 = _; omega, hj, rfl, ?_⟩
        repeat' (first | exact True.intro | refine ⟨_, LeL.refl _, ?_⟩ | refine ⟨_, _, _, LeL.refl _, ?_⟩ | (refine fun (b : Bool) hb => ?_; cases b <;> (first | exact absurd hb (by decide) | exact Bool.noConfusion (show true = false from hb) | exact Bool.noConfusion (show false = true from hb) | skip)) | (refine fun (hl : _ ≤ MAXL) => ?_) | refine And.intro (a := I64 _) ?_ ?_ | refine And.intro (a := _ ≤ 140737488355328) ?_ ?_ | refine ⟨_, ⟨rfl, rfl⟩, ?_⟩ | refine ⟨_, And.intro (a := I64 _) ?_ ⟨rfl, rfl⟩, ?_⟩ | refine ⟨_, _, ⟨rfl, rfl⟩, ?_⟩ | refine ⟨_, (fun _ => ⟨rfl, rfl⟩), ?_⟩ | refine And.intro (a := chkPend _ _ _ _ _ _) ?_ ?_ | refine And.intro (a := chkPast _ _ _ _ _ _ _ _) ?_ ?_ | refine ⟨⟨rfl, rfl⟩, ?_⟩ | refine And.intro (And.intro rfl rfl) ?_ | refine ⟨True.intro, ?_⟩ | refine ⟨_, ⟨_, rfl, ?_, rfl, rfl, rfl⟩, ?_⟩ | refine ⟨_, rfl, ?_, rfl, ?_⟩ | refine ⟨_, (fun _ => rfl), rfl, ?_⟩ | refine ⟨(fun _ => rfl), ?_⟩ | refine ⟨rfl, ?_⟩ | refine Opt.a ?_ | fail)
        refine ⟨((Lib.split l[i] [32])[(cn - 1).toNat], true), (by (refine wk_auto ?_; refine Sel4.mk rfl rfl ?_ ?_ <;> (repeat' (first | exact True.intro | exact rfl | exact Or.inl rfl | exact Or.inr rfl | refine And.intro ?_ ?_ | fail)))), ?_⟩
        rw [accM_each hlt (by show (4 : Int) < 6; decide), ← ho]
        have h2 : ¬ ((Lib.split l[i] [32]).length : Int) < cn := by omega
        have e : (Lib.split l[i] [32]).getD (cn - 1).toNat [] = (Lib.split l[i] [32])[(cn - 1).toNat] := by rw [List.getD_eq_getElem?_getD, List.getElem?_eq_getElem hj]; rfl
        unfold oneC
        simp only [show ¬ (4 : Int) = 1 by decide, show ¬ (4 : Int) = 2 by decide, show ¬ (4 : Int) = 3 by decide, if_false, if_true, if_neg h2, e]
    · repeat' (first | exact True.intro | refine ⟨_, LeL.refl _, ?_⟩ | refine ⟨_, _, _, LeL.refl _, ?_⟩ | (refine fun (b : Bool) hb => ?_; cases b <;> (first | exact absurd hb (by decide) | exact Bool.noConfusion (show true = false from hb) | exact Bool.noConfusion (show false = true from hb) | skip)) | (refine fun (hl : _ ≤ MAXL) => ?_) | refine And.intro (a := I64 _) ?_ ?_ | refine And.intro (a := _ ≤ 140737488355328) ?_ ?_ | refine ⟨_, ⟨rfl, rfl⟩, ?_⟩ | refine ⟨_, And.intro (a := I64 _) ?_ ⟨rfl, rfl⟩, ?_⟩ | refine ⟨_, _, ⟨rfl, rfl⟩, ?_⟩ | refine ⟨_, (fun _ => ⟨rfl, rfl⟩), ?_⟩ | refine And.intro (a := chkPend _ _ _ _ _ _) ?_ ?_ | refine And.intro (a := chkPast _ _ _ _ _ _ _ _) ?_ ?_ | refine ⟨⟨rfl, rfl⟩, ?_⟩ | refine And.intro (And.intro rfl rfl) ?_ | refine ⟨True.intro, ?_⟩ | refine ⟨_, ⟨_, rfl, ?_, rfl, rfl, rfl⟩, ?_⟩ | refine ⟨_, rfl, ?_, rfl, ?_⟩ | refine ⟨_, (fun _ => rfl), rfl, ?_⟩ | refine ⟨(fun _ => rfl), ?_⟩ | refine ⟨rfl, ?_⟩ | refine Opt.a ?_ | fail)
      · unfold I64
        dsimp only
        omega
      conv => whnf
      refine loop_live [1, 2, 5, 7, 8, 14, 15, 16] (σ := Int × Bs) (fun s => [(13, .int .i64 s.1), (12, .str s.2)]) (fun _ => [.box (cmdV ⟨5, cw, cn⟩).cells, .row 1 (out.map strV)]) (fun s => s.2 = (l[i].drop (s.1 + 1).toNat).reverse ∧ -1 ≤ s.1 ∧ s.1 < (l[i].length : Int)) (fun s => (s.1 + 1).toNat) ((l[i].length : Int) - 1, []) ?_
      conv => whnf
      refine ⟨(by (refine wk_auto ?_; refine Sel4.mk rfl rfl ?_ ?_ <;> (repeat' (first | exact True.intro | exact rfl | exact Or.inl rfl | exact Or.inr rfl | refine And.intro ?_ ?_ | fail)))), ⟨by simp, by dsimp only; omega, by dsimp only; omega⟩, fun s hs => ?_⟩
      obtain ⟨k, t⟩ := s
      obtain ⟨ht, hk1, hk2⟩ := hs
      dsimp only at ht hk1 hk2
      repeat' (first | exact True.intro | refine ⟨_, LeL.refl _, ?_⟩ | refine ⟨_, _, _, LeL.refl _, ?_⟩ | (refine fun (b : Bool) hb => ?_; cases b <;> (first | exact absurd hb (by decide) | exact Bool.noConfusion (show true = false from hb) | exact Bool.noConfusion (show false = true from hb) | skip)) | (refine fun (hl : _ ≤ MAXL) => ?_) | refine And.intro (a := I64 _) ?_ ?_ | refine And.intro (a := _ ≤ 140737488355328) ?_ ?_ | refine ⟨_, ⟨rfl, rfl⟩, ?_⟩ | refine ⟨_, And.intro (a := I64 _) ?_ ⟨rfl, rfl⟩, ?_⟩ | refine ⟨_, _, ⟨rfl, rfl⟩, ?_⟩ | refine ⟨_, (fun _ => ⟨rfl, rfl⟩), ?_⟩ | refine And.intro (a := chkPend _ _ _ _ _ _) ?_ ?_ | refine And.intro (a := chkPast _ _ _ _ _ _ _ _) ?_ ?_ | refine ⟨⟨rfl, rfl⟩, ?_⟩ | refine And.intro (And.intro rfl rfl) ?_ | refine ⟨True.intro, ?_⟩ | refine ⟨_, ⟨_, rfl, ?_, rfl, rfl, rfl⟩, ?_⟩ | refine ⟨_, rfl, ?_, rfl, ?_⟩ | refine ⟨_, (fun _ => rfl), rfl, ?_⟩ | refine ⟨(fun _ => rfl), ?_⟩ | refine ⟨rfl, ?_⟩ | refine Opt.a ?_ | fail)
      · have hge : ¬ (0 : Int) ≤ k := of_decide_eq_false (by assumption)
        refine ⟨(t, true), (by (refine wk_auto ?_; refine Sel4.mk rfl rfl ?_ ?_ <;> (repeat' (first | exact True.intro | exact rfl | exact Or.inl rfl | exact Or.inr rfl | refine And.intro ?_ ?_ | fail)))), ?_⟩
        rw [accM_each hlt (by show (5 : Int) < 6; decide), ← ho, ht, show (k + 1).toNat = 0 by omega, List.drop_zero]
        rw [one_5]
        rfl
      · unfold I64
        dsimp only
        omega
      have hge : (0 : Int) ≤ k := of_decide_eq_true (by assumption)
      obtain ⟨j, rfl⟩ : ∃ j : Nat, k = (j : Int) := ⟨k.toNat, by omega⟩
      have hj : j < l[i].length := by omega
      refine ⟨j, j + 1, rfl, rfl, by omega, hj, ?_⟩
      have hsl := one_slice hj
      have hnx := turn_next hj ht
      have htl : t.length ≤ l[i].length := by rw [ht]; simp
      rw [hsl]
      repeat' (first | exact True.intro | refine ⟨_, LeL.refl _, ?_⟩ | refine ⟨_, _, _, LeL.refl _, ?_⟩ | (refine fun (b : Bool) hb => ?_; cases b <;> (first | exact absurd hb (by decide) | exact Bool.noConfusion (show true = false from hb) | exact Bool.noConfusion (show false = true from hb) | skip)) | (refine fun (hl : _ ≤ MAXL) => ?_) | refine And.intro (a := I64 _) ?_ ?_ | refine And.intro (a := _ ≤ 140737488355328) ?_ ?_ | refine ⟨_, ⟨rfl, rfl⟩, ?_⟩ | refine ⟨_, And.intro (a := I64 _) ?_ ⟨rfl, rfl⟩, ?_⟩ | refine ⟨_, _, ⟨rfl, rfl⟩, ?_⟩ | refine ⟨_, (fun _ => ⟨rfl, rfl⟩), ?_⟩ | refine And.intro (a := chkPend _ _ _ _ _ _) ?_ ?_ | refine And.intro (a := chkPast _ _ _ _ _ _ _ _) ?_ ?_ | refine ⟨⟨rfl, rfl⟩, ?_⟩ | refine And.intro (And.intro rfl rfl) ?_ | refine ⟨True.intro, ?_⟩ | refine ⟨_, ⟨_, rfl, ?_, rfl, rfl, rfl⟩, ?_⟩ | refine ⟨_, rfl, ?_, rfl, ?_⟩ | refine ⟨_, (fun _ => rfl), rfl, ?_⟩ | refine ⟨(fun _ => rfl), ?_⟩ | refine ⟨rfl, ?_⟩ | refine Opt.a ?_ | fail)
      refine ⟨by show t.length + 1 ≤ MAXL; unfold MAXL; omega, ?_⟩
      repeat' (first | exact True.intro | refine ⟨_, LeL.refl _, ?_⟩ | refine ⟨_, _, _, LeL.refl _, ?_⟩ | (refine fun (b : Bool) hb => ?_; cases b <;> (first | exact absurd hb (by decide) | exact Bool.noConfusion (show true = false from hb) | exact Bool.noConfusion (show false = true from hb) | skip)) | (refine fun (hl : _ ≤ MAXL) => ?_) | refine And.intro (a := I64 _) ?_ ?_ | refine And.intro (a := _ ≤ 140737488355328) ?_ ?_ | refine ⟨_, ⟨rfl, rfl⟩, ?_⟩ | refine ⟨_, And.intro (a := I64 _) ?_ ⟨rfl, rfl⟩, ?_⟩ | refine ⟨_, _, ⟨rfl, rfl⟩, ?_⟩ | refine ⟨_, (fun _ => ⟨rfl, rfl⟩), ?_⟩ | refine And.intro (a := chkPend _ _ _ _ _ _) ?_ ?_ | refine And.intro (a := chkPast _ _ _ _ _ _ _ _) ?_ ?_ | refine ⟨⟨rfl, rfl⟩, ?_⟩ | refine And.intro (And.intro rfl rfl) ?_ | refine ⟨True.intro, ?_⟩ | refine ⟨_, ⟨_, rfl, ?_, rfl, rfl, rfl⟩, ?_⟩ | refine ⟨_, rfl, ?_, rfl, ?_⟩ | refine ⟨_, (fun _ => rfl), rfl, ?_⟩ | refine ⟨(fun _ => rfl), ?_⟩ | refine ⟨rfl, ?_⟩ | refine Opt.a ?_ | fail)
      · unfold I64
        dsimp only
        omega
      refine ⟨((j : Int) - 1, t ++ [l[i][j]]), (by (refine wk_auto ?_; refine Sel4.mk rfl rfl ?_ ?_ <;> (repeat' (first | exact True.intro | exact rfl | exact Or.inl rfl | exact Or.inr rfl | refine And.intro ?_ ?_ | fail)))), ⟨?_, by dsimp only; omega, by dsimp only; omega⟩, by dsimp only; omega⟩
      show t ++ [l[i][j]] = (l[i].drop ((j : Int) - 1 + 1).toNat).reverse
      rw [show ((j : Int) - 1 + 1).toNat = j by omega]
      exact hnx
    · repeat' (first | exact True.intro | refine ⟨_, LeL.refl _, ?_⟩ | refine ⟨_, _, _, LeL.refl _, ?_⟩ | (refine fun (b : Bool) hb => ?_; cases b <;> (first | exact absurd hb (by decide) | exact Bool.noConfusion (show true = false from hb) | exact Bool.noConfusion (show false = true from hb) | skip)) | (refine fun (hl : _ ≤ MAXL) => ?_) | refine And.intro (a := I64 _) ?_ ?_ | refine And.intro (a := _ ≤ 140737488355328) ?_ ?_ | refine ⟨_, ⟨rfl, rfl⟩, ?_⟩ | refine ⟨_, And.intro (a := I64 _) ?_ ⟨rfl, rfl⟩, ?_⟩ | refine ⟨_, _, ⟨rfl, rfl⟩, ?_⟩ | refine ⟨_, (fun _ => ⟨rfl, rfl⟩), ?_⟩ | refine And.intro (a := chkPend _ _ _ _ _ _) ?_ ?_ | refine And.intro (a := chkPast _ _ _ _ _ _ _ _) ?_ ?_ | refine ⟨⟨rfl, rfl⟩, ?_⟩ | refine And.intro (And.intro rfl rfl) ?_ | refine ⟨True.intro, ?_⟩ | refine ⟨_, ⟨_, rfl, ?_, rfl, rfl, rfl⟩, ?_⟩ | refine ⟨_, rfl, ?_, rfl, ?_⟩ | refine ⟨_, (fun _ => rfl), rfl, ?_⟩ | refine ⟨(fun _ => rfl), ?_⟩ | refine ⟨rfl, ?_⟩ | refine Opt.a ?_ | fail)
      refine ⟨(l[i], true), (by (refine wk_auto ?_; refine Sel4.mk rfl rfl ?_ ?_ <;> (repeat' (first | exact True.intro | exact rfl | exact Or.inl rfl | exact Or.inr rfl | refine And.intro ?_ ?_ | fail)))), ?_⟩
      rw [accM_6 hlt rfl, ← ho]
      simp
    · repeat' (first | exact True.intro | refine ⟨_, LeL.refl _, ?_⟩ | refine ⟨_, _, _, LeL.refl _, ?_⟩ | (refine fun (b : Bool) hb => ?_; cases b <;> (first | exact absurd hb (by decide) | exact Bool.noConfusion (show true = false from hb) | exact Bool.noConfusion (show false = true from hb) | skip)) | (refine fun (hl : _ ≤ MAXL) => ?_) | refine And.intro (a := I64 _) ?_ ?_ | refine And.intro (a := _ ≤ 140737488355328) ?_ ?_ | refine ⟨_, ⟨rfl, rfl⟩, ?_⟩ | refine ⟨_, And.intro (a := I64 _) ?_ ⟨rfl, rfl⟩, ?_⟩ | refine ⟨_, _, ⟨rfl, rfl⟩, ?_⟩ | refine ⟨_, (fun _ => ⟨rfl, rfl⟩), ?_⟩ | refine And.intro (a := chkPend _ _ _ _ _ _) ?_ ?_ | refine And.intro (a := chkPast _ _ _ _ _ _ _ _) ?_ ?_ | refine ⟨⟨rfl, rfl⟩, ?_⟩ | refine And.intro (And.intro rfl rfl) ?_ | refine ⟨True.intro, ?_⟩ | refine ⟨_, ⟨_, rfl, ?_, rfl, rfl, rfl⟩, ?_⟩ | refine ⟨_, rfl, ?_, rfl, ?_⟩ | refine ⟨_, (fun _ => rfl), rfl, ?_⟩ | refine ⟨(fun _ => rfl), ?_⟩ | refine ⟨rfl, ?_⟩ | refine Opt.a ?_ | fail)
      · unfold I64
        dsimp only
        omega
      · have h0 : ¬ (i : Int) = 0 := of_decide_eq_false (by assumption)
        refine ⟨i - 1, by show (i : Int) - 1 = _; omega, by omega, rfl, ?_⟩
        repeat' (first | exact True.intro | refine ⟨_, LeL.refl _, ?_⟩ | refine ⟨_, _, _, LeL.refl _, ?_⟩ | (refine fun (b : Bool) hb => ?_; cases b <;> (first | exact absurd hb (by decide) | exact Bool.noConfusion (show true = false from hb) | exact Bool.noConfusion (show false = true from hb) | skip)) | (refine fun (hl : _ ≤ MAXL) => ?_) | refine And.intro (a := I64 _) ?_ ?_ | refine And.intro (a := _ ≤ 140737488355328) ?_ ?_ | refine ⟨_, ⟨rfl, rfl⟩, ?_⟩ | refine ⟨_, And.intro (a := I64 _) ?_ ⟨rfl, rfl⟩, ?_⟩ | refine ⟨_, _, ⟨rfl, rfl⟩, ?_⟩ | refine ⟨_, (fun _ => ⟨rfl, rfl⟩), ?_⟩ | refine And.intro (a := chkPend _ _ _ _ _ _) ?_ ?_ | refine And.intro (a := chkPast _ _ _ _ _ _ _ _) ?_ ?_ | refine ⟨⟨rfl, rfl⟩, ?_⟩ | refine And.intro (And.intro rfl rfl) ?_ | refine ⟨True.intro, ?_⟩ | refine ⟨_, ⟨_, rfl, ?_, rfl, rfl, rfl⟩, ?_⟩ | refine ⟨_, rfl, ?_, rfl, ?_⟩ | refine ⟨_, (fun _ => rfl), rfl, ?_⟩ | refine ⟨(fun _ => rfl), ?_⟩ | refine ⟨rfl, ?_⟩ | refine Opt.a ?_ | fail)
        refine ⟨(l[i], !decide (l[i - 1] = l[i])), (by (refine wk_auto ?_; refine Sel4.mk rfl rfl ?_ ?_ <;> (repeat' (first | exact True.intro | exact rfl | exact Or.inl rfl | exact Or.inr rfl | refine And.intro ?_ ?_ | fail)))), ?_⟩
        rw [accM_7 hlt rfl, ← ho]
        have e : l.getD (i - 1) [] = l[i - 1] := by rw [List.getD_eq_getElem?_getD, List.getElem?_eq_getElem (by omega)]; rfl
        rw [e]
        by_cases hq : l[i - 1] = l[i]
        · rw [if_neg (by rintro (h | h); exact h0 (by omega); exact h hq)]
          simp [hq]
        · rw [if_pos (.inr hq)]
          simp [hq]
      · have h0 : (i : Int) = 0 := of_decide_eq_true (by assumption)
        repeat' (first | exact True.intro | refine ⟨_, LeL.refl _, ?_⟩ | refine ⟨_, _, _, LeL.refl _, ?_⟩ | (refine fun (b : Bool) hb => ?_; cases b <;> (first | exact absurd hb (by decide) | exact Bool.noConfusion (show true = false from hb) | exact Bool.noConfusion (show false = true from hb) | skip)) | (refine fun (hl : _ ≤ MAXL) => ?_) | refine And.intro (a := I64 _) ?_ ?_ | refine And.intro (a := _ ≤ 140737488355328) ?_ ?_ | refine ⟨_, ⟨rfl, rfl⟩, ?_⟩ | refine ⟨_, And.intro (a := I64 _) ?_ ⟨rfl, rfl⟩, ?_⟩ | refine ⟨_, _, ⟨rfl, rfl⟩, ?_⟩ | refine ⟨_, (fun _ => ⟨rfl, rfl⟩), ?_⟩ | refine And.intro (a := chkPend _ _ _ _ _ _) ?_ ?_ | refine And.intro (a := chkPast _ _ _ _ _ _ _ _) ?_ ?_ | refine ⟨⟨rfl, rfl⟩, ?_⟩ | refine And.intro (And.intro rfl rfl) ?_ | refine ⟨True.intro, ?_⟩ | refine ⟨_, ⟨_, rfl, ?_, rfl, rfl, rfl⟩, ?_⟩ | refine ⟨_, rfl, ?_, rfl, ?_⟩ | refine ⟨_, (fun _ => rfl), rfl, ?_⟩ | refine ⟨(fun _ => rfl), ?_⟩ | refine ⟨rfl, ?_⟩ | refine Opt.a ?_ | fail)
        refine ⟨(l[i], true), (by (refine wk_auto ?_; refine Sel4.mk rfl rfl ?_ ?_ <;> (repeat' (first | exact True.intro | exact rfl | exact Or.inl rfl | exact Or.inr rfl | refine And.intro ?_ ?_ | fail)))), ?_⟩
        rw [accM_7 hlt rfl, ← ho, if_pos (.inl (by omega))]
        simp
    · repeat' (first | exact True.intro | refine ⟨_, LeL.refl _, ?_⟩ | refine ⟨_, _, _, LeL.refl _, ?_⟩ | (refine fun (b : Bool) hb => ?_; cases b <;> (first | exact absurd hb (by decide) | exact Bool.noConfusion (show true = false from hb) | exact Bool.noConfusion (show false = true from hb) | skip)) | (refine fun (hl : _ ≤ MAXL) => ?_) | refine And.intro (a := I64 _) ?_ ?_ | refine And.intro (a := _ ≤ 140737488355328) ?_ ?_ | refine ⟨_, ⟨rfl, rfl⟩, ?_⟩ | refine ⟨_, And.intro (a := I64 _) ?_ ⟨rfl, rfl⟩, ?_⟩ | refine ⟨_, _, ⟨rfl, rfl⟩, ?_⟩ | refine ⟨_, (fun _ => ⟨rfl, rfl⟩), ?_⟩ | refine And.intro (a := chkPend _ _ _ _ _ _) ?_ ?_ | refine And.intro (a := chkPast _ _ _ _ _ _ _ _) ?_ ?_ | refine ⟨⟨rfl, rfl⟩, ?_⟩ | refine And.intro (And.intro rfl rfl) ?_ | refine ⟨True.intro, ?_⟩ | refine ⟨_, ⟨_, rfl, ?_, rfl, rfl, rfl⟩, ?_⟩ | refine ⟨_, rfl, ?_, rfl, ?_⟩ | refine ⟨_, (fun _ => rfl), rfl, ?_⟩ | refine ⟨(fun _ => rfl), ?_⟩ | refine ⟨rfl, ?_⟩ | refine Opt.a ?_ | fail)
      refine ⟨(l[i], false), (by (refine wk_auto ?_; refine Sel4.mk rfl rfl ?_ ?_ <;> (repeat' (first | exact True.intro | exact rfl | exact Or.inl rfl | exact Or.inr rfl | refine And.intro ?_ ?_ | fail)))), ?_⟩
      rw [accM_8 rfl, ho, accM_8 rfl]
      simp
    · repeat' (first | exact True.intro | refine ⟨_, LeL.refl _, ?_⟩ | refine ⟨_, _, _, LeL.refl _, ?_⟩ | (refine fun (b : Bool) hb => ?_; cases b <;> (first | exact absurd hb (by decide) | exact Bool.noConfusion (show true = false from hb) | exact Bool.noConfusion (show false = true from hb) | skip)) | (refine fun (hl : _ ≤ MAXL) => ?_) | refine And.intro (a := I64 _) ?_ ?_ | refine And.intro (a := _ ≤ 140737488355328) ?_ ?_ | refine ⟨_, ⟨rfl, rfl⟩, ?_⟩ | refine ⟨_, And.intro (a := I64 _) ?_ ⟨rfl, rfl⟩, ?_⟩ | refine ⟨_, _, ⟨rfl, rfl⟩, ?_⟩ | refine ⟨_, (fun _ => ⟨rfl, rfl⟩), ?_⟩ | refine And.intro (a := chkPend _ _ _ _ _ _) ?_ ?_ | refine And.intro (a := chkPast _ _ _ _ _ _ _ _) ?_ ?_ | refine ⟨⟨rfl, rfl⟩, ?_⟩ | refine And.intro (And.intro rfl rfl) ?_ | refine ⟨True.intro, ?_⟩ | refine ⟨_, ⟨_, rfl, ?_, rfl, rfl, rfl⟩, ?_⟩ | refine ⟨_, rfl, ?_, rfl, ?_⟩ | refine ⟨_, (fun _ => rfl), rfl, ?_⟩ | refine ⟨(fun _ => rfl), ?_⟩ | refine ⟨rfl, ?_⟩ | refine Opt.a ?_ | fail)
      refine ⟨(l[i], decide ((i : Int) < cn)), (by (refine wk_auto ?_; refine Sel4.mk rfl rfl ?_ ?_ <;> (repeat' (first | exact True.intro | exact rfl | exact Or.inl rfl | exact Or.inr rfl | refine And.intro ?_ ?_ | fail)))), ?_⟩
      rw [accM_9 hlt rfl, ← ho]
      simp
    · have hn0 : 0 ≤ cn := by
        unfold checkCmd useN at hc
        grind
      have hn1 : cn ≤ 1000 := by
        unfold checkCmd useN at hc
        grind
      repeat' (first | exact True.intro | refine ⟨_, LeL.refl _, ?_⟩ | refine ⟨_, _, _, LeL.refl _, ?_⟩ | (refine fun (b : Bool) hb => ?_; cases b <;> (first | exact absurd hb (by decide) | exact Bool.noConfusion (show true = false from hb) | exact Bool.noConfusion (show false = true from hb) | skip)) | (refine fun (hl : _ ≤ MAXL) => ?_) | refine And.intro (a := I64 _) ?_ ?_ | refine And.intro (a := _ ≤ 140737488355328) ?_ ?_ | refine ⟨_, ⟨rfl, rfl⟩, ?_⟩ | refine ⟨_, And.intro (a := I64 _) ?_ ⟨rfl, rfl⟩, ?_⟩ | refine ⟨_, _, ⟨rfl, rfl⟩, ?_⟩ | refine ⟨_, (fun _ => ⟨rfl, rfl⟩), ?_⟩ | refine And.intro (a := chkPend _ _ _ _ _ _) ?_ ?_ | refine And.intro (a := chkPast _ _ _ _ _ _ _ _) ?_ ?_ | refine ⟨⟨rfl, rfl⟩, ?_⟩ | refine And.intro (And.intro rfl rfl) ?_ | refine ⟨True.intro, ?_⟩ | refine ⟨_, ⟨_, rfl, ?_, rfl, rfl, rfl⟩, ?_⟩ | refine ⟨_, rfl, ?_, rfl, ?_⟩ | refine ⟨_, (fun _ => rfl), rfl, ?_⟩ | refine ⟨(fun _ => rfl), ?_⟩ | refine ⟨rfl, ?_⟩ | refine Opt.a ?_ | fail)
      · unfold I64
        dsimp only
        omega
      refine ⟨(l[i], decide ((l.length : Int) - cn ≤ (i : Int))), (by (refine wk_auto ?_; refine Sel4.mk rfl rfl ?_ ?_ <;> (repeat' (first | exact True.intro | exact rfl | exact Or.inl rfl | exact Or.inr rfl | refine And.intro ?_ ?_ | fail)))), ?_⟩
      rw [accM_10 hlt rfl hn0, ← ho]
      simp
  obtain ⟨s, kp⟩ := s
  dsimp only at hst
  cases kp
  · repeat' (first | exact True.intro | refine ⟨_, LeL.refl _, ?_⟩ | refine ⟨_, _, _, LeL.refl _, ?_⟩ | (refine fun (b : Bool) hb => ?_; cases b <;> (first | exact absurd hb (by decide) | exact Bool.noConfusion (show true = false from hb) | exact Bool.noConfusion (show false = true from hb) | skip)) | (refine fun (hl : _ ≤ MAXL) => ?_) | refine And.intro (a := I64 _) ?_ ?_ | refine And.intro (a := _ ≤ 140737488355328) ?_ ?_ | refine ⟨_, ⟨rfl, rfl⟩, ?_⟩ | refine ⟨_, And.intro (a := I64 _) ?_ ⟨rfl, rfl⟩, ?_⟩ | refine ⟨_, _, ⟨rfl, rfl⟩, ?_⟩ | refine ⟨_, (fun _ => ⟨rfl, rfl⟩), ?_⟩ | refine And.intro (a := chkPend _ _ _ _ _ _) ?_ ?_ | refine And.intro (a := chkPast _ _ _ _ _ _ _ _) ?_ ?_ | refine ⟨⟨rfl, rfl⟩, ?_⟩ | refine And.intro (And.intro rfl rfl) ?_ | refine ⟨True.intro, ?_⟩ | refine ⟨_, ⟨_, rfl, ?_, rfl, rfl, rfl⟩, ?_⟩ | refine ⟨_, rfl, ?_, rfl, ?_⟩ | refine ⟨_, (fun _ => rfl), rfl, ?_⟩ | refine ⟨(fun _ => rfl), ?_⟩ | refine ⟨rfl, ?_⟩ | refine Opt.a ?_ | fail)
    · unfold I64
      dsimp only
      omega
    refine ⟨(i + 1, out), (by (refine wk_auto ?_; refine Sel4.mk rfl rfl ?_ ?_ <;> (repeat' (first | exact True.intro | exact rfl | exact Or.inl rfl | exact Or.inr rfl | refine And.intro ?_ ?_ | fail)))), ⟨?_, hlt⟩, ?_⟩
    · show out = accM c l (i + 1)
      rw [hst]
      simp
    · show l.length - (i + 1) < l.length - i
      omega
  · repeat' (first | exact True.intro | refine ⟨_, LeL.refl _, ?_⟩ | refine ⟨_, _, _, LeL.refl _, ?_⟩ | (refine fun (b : Bool) hb => ?_; cases b <;> (first | exact absurd hb (by decide) | exact Bool.noConfusion (show true = false from hb) | exact Bool.noConfusion (show false = true from hb) | skip)) | (refine fun (hl : _ ≤ MAXL) => ?_) | refine And.intro (a := I64 _) ?_ ?_ | refine And.intro (a := _ ≤ 140737488355328) ?_ ?_ | refine ⟨_, ⟨rfl, rfl⟩, ?_⟩ | refine ⟨_, And.intro (a := I64 _) ?_ ⟨rfl, rfl⟩, ?_⟩ | refine ⟨_, _, ⟨rfl, rfl⟩, ?_⟩ | refine ⟨_, (fun _ => ⟨rfl, rfl⟩), ?_⟩ | refine And.intro (a := chkPend _ _ _ _ _ _) ?_ ?_ | refine And.intro (a := chkPast _ _ _ _ _ _ _ _) ?_ ?_ | refine ⟨⟨rfl, rfl⟩, ?_⟩ | refine And.intro (And.intro rfl rfl) ?_ | refine ⟨True.intro, ?_⟩ | refine ⟨_, ⟨_, rfl, ?_, rfl, rfl, rfl⟩, ?_⟩ | refine ⟨_, rfl, ?_, rfl, ?_⟩ | refine ⟨_, (fun _ => rfl), rfl, ?_⟩ | refine ⟨(fun _ => rfl), ?_⟩ | refine ⟨rfl, ?_⟩ | refine Opt.a ?_ | fail)
    · show ((out.map strV).length + 1) * 16 ≤ 140737488355328
      rw [List.length_map]
      omega
    · unfold I64
      dsimp only
      omega
    refine ⟨(i + 1, out ++ [s]), ?_, ⟨?_, hlt⟩, ?_⟩
    rotate_left
    · show out ++ [s] = accM c l (i + 1)
      rw [hst]
      simp
    · show l.length - (i + 1) < l.length - i
      omega
    (refine wk_auto ?_; refine Sel4.mk rfl rfl ?_ ?_ <;> (repeat' (first | exact True.intro | exact rfl | exact Or.inl rfl | exact Or.inr rfl | refine And.intro ?_ ?_ | fail)))
    show Row.row 1 _ = Row.row 1 _
    simp
    rfl
end Gv
namespace Gv
variable [Glob] [Laid]
theorem joinS_ca : callable Tryz.prog 103 = true := by kernel_rfl
def joinS_S : Spec := fun args K => ∃ (l : List Bs) (sep : Bs), args = [.sl strV l, .str sep] ∧ (l.length ≤ 140737488355328 ∧ (Lib.join l sep).length ≤ 140737488355328) ∧ K (.str (Lib.join l sep))
set_option maxHeartbeats 4000000 in
theorem joinS_ok : Pure Tryz.prog 103 joinS_S := by
  intro w m args us K hm hg hv hT
  obtain ⟨l, sep, rfl, ⟨h1, h2⟩, hK⟩ := hT
  obtain ⟨a, b, rfl, ha, hb⟩ := args2 hv.1 hv.2
  obtain ⟨p, c, rfl, hlc, hc, hp⟩ := strs_open ha hm
  obtain ⟨rfl, -⟩ := vr_str hb
  by_cases hl : l = []
  · subst hl
    refine (Tryz.strings_Join_none p c (ba sep) w).mono fun e w' ⟨he, hw⟩ => ?_
    subst hw
    exact ⟨_, _, he, Bel.refl _ _, hK, .str (s := []) (Nat.zero_le _)⟩
  · obtain ⟨bk, o, rfl, hbk, hx, hx2⟩ := hp hl
    have e1 : (l.map ba).map (fun x => x.data.toList) = l := by
      rw [List.map_map]
      conv => rhs; rw [← List.map_id l]
      rfl
    have e2 : (l.map ba).length = l.length := List.length_map ..
    have := Tryz.strings_Join bk o c (l.map ba) (ba sep) w (fun j x hj => by
      rw [List.getElem?_map] at hj
      obtain ⟨y, hy, rfl⟩ := Option.map_eq_some_iff.1 hj
      exact hx j y hy) hbk (by rw [e2]; exact h1) (by rw [e2]; exact hlc) (by rw [e1]; exact h2)
    rw [e1, e2] at this
    refine this.mono fun e w' ⟨he, hw⟩ => ?_
    exact ⟨_, _, he, Bel.of_below hw, hK, .str (by have := h2; unfold MAXL; show (Lib.join l sep).length ≤ _; omega)⟩
end Gv
namespace Gv
variable [Glob] [Laid]
theorem bytesOfR_ca : callable Tryz.prog 36 = true := by kernel_rfl
def bytesOfR_S : Spec := fun args K => ∃ (l : List Bs), args = [.sl strV l] ∧ (put l).length ≤ 1000000 ∧ K (.sl byteV (put l))
noncomputable def bytesOfR_lib : List (Nat × Spec) := [(103, joinS_S)]
noncomputable def bytesOfR_fns : List (Nat × FnI) := []
noncomputable def bytesOfR_prims : List (Nat × PSpec) := []
theorem bytesOfR_E : EnvOK ⟨Tryz.prog, tys, bytesOfR_lib, bytesOfR_fns, bytesOfR_prims, []⟩ := env_ok mixed0 tys0 (.cons joinS_ca joinS_ok .nil) .nil .nil rfl
set_option maxHeartbeats 4000000 in
theorem bytesOfR_ok : Pure Tryz.prog 36 bytesOfR_S := by
  refine pure_by bytesOfR_E 6 (fi := {fn := Tryz.f36, hooks := [], draws := []}) ⟨Tryz.func36, by kernel_rfl, by kernel_rfl⟩ ?_
  rintro _ K ⟨l, rfl, hz, hK⟩
  replace hK : ∀ r, r = .sl byteV (put l) → K r := fun r h => h ▸ hK
  have hj := join_put l
  have hjl : (Lib.join l [10]).length ≤ (put l).length := by
    rw [← hj]
    split
    · simp
    · exact Nat.le_refl _
  have hll := put_len (l := l) (n := 1000000) hz
  refine ⟨l, [10], rfl, ⟨by omega, by omega⟩, ?_⟩
  repeat' (first | exact True.intro | refine ⟨_, LeL.refl _, ?_⟩ | refine ⟨_, _, _, LeL.refl _, ?_⟩ | (refine fun (b : Bool) hb => ?_; cases b <;> (first | exact absurd hb (by decide) | exact Bool.noConfusion (show true = false from hb) | exact Bool.noConfusion (show false = true from hb) | skip)) | (refine fun (hl : _ ≤ MAXL) => ?_) | refine And.intro (a := I64 _) ?_ ?_ | refine And.intro (a := _ ≤ 140737488355328) ?_ ?_ | refine ⟨_, ⟨rfl, rfl⟩, ?_⟩ | refine ⟨_, And.intro (a := I64 _) ?_ ⟨rfl, rfl⟩, ?_⟩ | refine ⟨_, _, ⟨rfl, rfl⟩, ?_⟩ | refine ⟨_, (fun _ => ⟨rfl, rfl⟩), ?_⟩ | refine And.intro (a := chkPend _ _ _ _ _ _) ?_ ?_ | refine And.intro (a := chkPast _ _ _ _ _ _ _ _) ?_ ?_ | refine ⟨⟨rfl, rfl⟩, ?_⟩ | refine And.intro (And.intro rfl rfl) ?_ | refine ⟨True.intro, ?_⟩ | refine ⟨_, ⟨_, rfl, ?_, rfl, rfl, rfl⟩, ?_⟩ | refine ⟨_, rfl, ?_, rfl, ?_⟩ | refine ⟨_, (fun _ => rfl), rfl, ?_⟩ | refine ⟨(fun _ => rfl), ?_⟩ | refine ⟨rfl, ?_⟩ | refine Opt.a ?_ | fail)
  · omega
  · conv => whnf
    refine hK _ ?_
    rw [← hj, if_neg (by have := of_decide_eq_false (by assumption : decide ((0 : Int) < (l.length : Int)) = false); omega)]
  all_goals have hp : 0 < l.length := by have := of_decide_eq_true (by assumption : decide ((0 : Int) < (l.length : Int)) = true); omega
  rw [if_pos hp] at hj
  conv => whnf
  refine ⟨by show (Lib.join l [10]).length + 1 ≤ MAXL; unfold MAXL; omega, ?_⟩
  repeat' (first | exact True.intro | refine ⟨_, LeL.refl _, ?_⟩ | refine ⟨_, _, _, LeL.refl _, ?_⟩ | (refine fun (b : Bool) hb => ?_; cases b <;> (first | exact absurd hb (by decide) | exact Bool.noConfusion (show true = false from hb) | exact Bool.noConfusion (show false = true from hb) | skip)) | (refine fun (hl : _ ≤ MAXL) => ?_) | refine And.intro (a := I64 _) ?_ ?_ | refine And.intro (a := _ ≤ 140737488355328) ?_ ?_ | refine ⟨_, ⟨rfl, rfl⟩, ?_⟩ | refine ⟨_, And.intro (a := I64 _) ?_ ⟨rfl, rfl⟩, ?_⟩ | refine ⟨_, _, ⟨rfl, rfl⟩, ?_⟩ | refine ⟨_, (fun _ => ⟨rfl, rfl⟩), ?_⟩ | refine And.intro (a := chkPend _ _ _ _ _ _) ?_ ?_ | refine And.intro (a := chkPast _ _ _ _ _ _ _ _) ?_ ?_ | refine ⟨⟨rfl, rfl⟩, ?_⟩ | refine And.intro (And.intro rfl rfl) ?_ | refine ⟨True.intro, ?_⟩ | refine ⟨_, ⟨_, rfl, ?_, rfl, rfl, rfl⟩, ?_⟩ | refine ⟨_, rfl, ?_, rfl, ?_⟩ | refine ⟨_, (fun _ => rfl), rfl, ?_⟩ | refine ⟨(fun _ => rfl), ?_⟩ | refine ⟨rfl, ?_⟩ | refine Opt.a ?_ | fail)
  · show (Lib.join l [10] ++ [10]).length ≤ 140737488355328
    rw [hj]
    omega
  conv => whnf
  refine hK _ ?_
  show V.sl byteV (Lib.join l [10] ++ [10]) = _
  rw [hj]
end Gv
namespace Gv
variable [Glob] [Laid] [Errs] [Nums]
theorem joinedR_ca : callable Tryz.prog 75 = true := by kernel_rfl
def joinedR_S : Spec := fun args K => ∃ (h : Int) (c : Cmd) (p : List Bs), args = [.int .i64 h, cmdV c, .sl blV p] ∧ ((h = 4 → checkCmd c = 0) ∧ p.length ≤ 5 ∧ p.flatten.length ≤ 4000) ∧ K (.sl byteV (jd h c p))
noncomputable def joinedR_lib : List (Nat × Spec) := [(38, linesOfR_S), (117, parseIS_S), (118, fmtI_S), (107, itoa_S), (37, madeR_S), (36, bytesOfR_S)]
noncomputable def joinedR_fns : List (Nat × FnI) := []
noncomputable def joinedR_prims : List (Nat × PSpec) := []
theorem joinedR_E : EnvOK ⟨Tryz.prog, tys, joinedR_lib, joinedR_fns, joinedR_prims, []⟩ := env_ok mixed0 tys0 (.cons linesOfR_ca linesOfR_ok (.cons parseIS_ca parseIS_ok (.cons fmtI_ca fmtI_ok (.cons itoa_ca itoa_ok (.cons madeR_ca madeR_ok (.cons bytesOfR_ca bytesOfR_ok .nil)))))) .nil .nil rfl
set_option maxHeartbeats 16000000 in
theorem joinedR_ok : Pure Tryz.prog 75 joinedR_S := by
  refine pure_by joinedR_E 6 (fi := {fn := Tryz.f75, hooks := [13, 32], draws := [(10, [0, 1, 3, 7, 15, 31, 63, 127, 255, 511, 1023, 2047, 4095, 2047, 10239, 26623, 65535, 131071]), (27, [0, 0, 0, 0, 12, 28, 62, 126, 1, 511])]}) ⟨Tryz.func75, by kernel_rfl, by kernel_rfl⟩ ?_
  rintro _ K ⟨h, c, p, rfl, ⟨hc4, h5, hfl⟩, hK⟩
  replace hK : ∀ r, r = .sl byteV (jd h c p) → K r := fun r h => h ▸ hK
  have hpl : ∀ b ∈ p, b.length ≤ 4000 := fun b hb => Nat.le_trans (el_flat hb) hfl
  obtain ⟨P, hP⟩ : ∃ P, p.map linesOf = P := ⟨_, rfl⟩
  have hPl : P.length = p.length := by rw [← hP, List.length_map]
  have hPi : ∀ i (hi : i < p.length), P.getD i [] = linesOf p[i] := fun i hi => by
    rw [← hP, List.getD_eq_getElem?_getD, List.getElem?_map, List.getElem?_eq_getElem hi]
    rfl
  repeat' (first | exact True.intro | refine ⟨_, LeL.refl _, ?_⟩ | refine ⟨_, _, _, LeL.refl _, ?_⟩ | (refine fun (b : Bool) hb => ?_; cases b <;> (first | exact absurd hb (by decide) | exact Bool.noConfusion (show true = false from hb) | exact Bool.noConfusion (show false = true from hb) | skip)) | (refine fun (hl : _ ≤ MAXL) => ?_) | refine And.intro (a := I64 _) ?_ ?_ | refine And.intro (a := _ ≤ 140737488355328) ?_ ?_ | refine ⟨_, ⟨rfl, rfl⟩, ?_⟩ | refine ⟨_, And.intro (a := I64 _) ?_ ⟨rfl, rfl⟩, ?_⟩ | refine ⟨_, _, ⟨rfl, rfl⟩, ?_⟩ | refine ⟨_, (fun _ => ⟨rfl, rfl⟩), ?_⟩ | refine And.intro (a := chkPend _ _ _ _ _ _) ?_ ?_ | refine And.intro (a := chkPast _ _ _ _ _ _ _ _) ?_ ?_ | refine ⟨⟨rfl, rfl⟩, ?_⟩ | refine And.intro (And.intro rfl rfl) ?_ | refine ⟨True.intro, ?_⟩ | refine ⟨_, ⟨_, rfl, ?_, rfl, rfl, rfl⟩, ?_⟩ | refine ⟨_, rfl, ?_, rfl, ?_⟩ | refine ⟨_, (fun _ => rfl), rfl, ?_⟩ | refine ⟨(fun _ => rfl), ?_⟩ | refine ⟨rfl, ?_⟩ | refine Opt.a ?_ | fail)
  conv => whnf
  refine join_live [0, 2, 4] (σ := Unit) (fun _ => [(7, .own 1), (8, .int .i64 (sumN P P.length))]) (fun _ => [.box (cmdV c).cells, .row 1 (P.flatten.map strV)]) (fun _ => True) ?_
  conv => whnf
  refine ⟨?_, fun _ _ => ?_⟩
  · repeat' (first | exact True.intro | refine ⟨_, LeL.refl _, ?_⟩ | refine ⟨_, _, _, LeL.refl _, ?_⟩ | (refine fun (b : Bool) hb => ?_; cases b <;> (first | exact absurd hb (by decide) | exact Bool.noConfusion (show true = false from hb) | exact Bool.noConfusion (show false = true from hb) | skip)) | (refine fun (hl : _ ≤ MAXL) => ?_) | refine And.intro (a := I64 _) ?_ ?_ | refine And.intro (a := _ ≤ 140737488355328) ?_ ?_ | refine ⟨_, ⟨rfl, rfl⟩, ?_⟩ | refine ⟨_, And.intro (a := I64 _) ?_ ⟨rfl, rfl⟩, ?_⟩ | refine ⟨_, _, ⟨rfl, rfl⟩, ?_⟩ | refine ⟨_, (fun _ => ⟨rfl, rfl⟩), ?_⟩ | refine And.intro (a := chkPend _ _ _ _ _ _) ?_ ?_ | refine And.intro (a := chkPast _ _ _ _ _ _ _ _) ?_ ?_ | refine ⟨⟨rfl, rfl⟩, ?_⟩ | refine And.intro (And.intro rfl rfl) ?_ | refine ⟨True.intro, ?_⟩ | refine ⟨_, ⟨_, rfl, ?_, rfl, rfl, rfl⟩, ?_⟩ | refine ⟨_, rfl, ?_, rfl, ?_⟩ | refine ⟨_, (fun _ => rfl), rfl, ?_⟩ | refine ⟨(fun _ => rfl), ?_⟩ | refine ⟨rfl, ?_⟩ | refine Opt.a ?_ | fail)
    conv => whnf
    refine loop_live [0, 2, 4, 20, 21] (σ := Nat × List Bs × Int) (fun s => [(22, .int .i64 s.1), (7, .own 1), (8, .int .i64 s.2.2)]) (fun s => [.box (cmdV c).cells, .row 1 (s.2.1.map strV)]) (fun s => s.1 ≤ p.length ∧ s.2.1 = (P.take s.1).flatten ∧ s.2.2 = sumN P s.1) (fun s => p.length - s.1) (0, [], 0) ?_
    conv => whnf
    refine ⟨(by (refine wk_auto ?_; refine Sel4.mk rfl rfl ?_ ?_ <;> (repeat' (first | exact True.intro | exact rfl | exact Or.inl rfl | exact Or.inr rfl | refine And.intro ?_ ?_ | fail)))), ⟨Nat.zero_le _, by simp, rfl⟩, fun s hs => ?_⟩
    obtain ⟨i, all, acc⟩ := s
    obtain ⟨hi, ha, hacc⟩ := hs
    dsimp only at hi ha hacc
    repeat' (first | exact True.intro | refine ⟨_, LeL.refl _, ?_⟩ | refine ⟨_, _, _, LeL.refl _, ?_⟩ | (refine fun (b : Bool) hb => ?_; cases b <;> (first | exact absurd hb (by decide) | exact Bool.noConfusion (show true = false from hb) | exact Bool.noConfusion (show false = true from hb) | skip)) | (refine fun (hl : _ ≤ MAXL) => ?_) | refine And.intro (a := I64 _) ?_ ?_ | refine And.intro (a := _ ≤ 140737488355328) ?_ ?_ | refine ⟨_, ⟨rfl, rfl⟩, ?_⟩ | refine ⟨_, And.intro (a := I64 _) ?_ ⟨rfl, rfl⟩, ?_⟩ | refine ⟨_, _, ⟨rfl, rfl⟩, ?_⟩ | refine ⟨_, (fun _ => ⟨rfl, rfl⟩), ?_⟩ | refine And.intro (a := chkPend _ _ _ _ _ _) ?_ ?_ | refine And.intro (a := chkPast _ _ _ _ _ _ _ _) ?_ ?_ | refine ⟨⟨rfl, rfl⟩, ?_⟩ | refine And.intro (And.intro rfl rfl) ?_ | refine ⟨True.intro, ?_⟩ | refine ⟨_, ⟨_, rfl, ?_, rfl, rfl, rfl⟩, ?_⟩ | refine ⟨_, rfl, ?_, rfl, ?_⟩ | refine ⟨_, (fun _ => rfl), rfl, ?_⟩ | refine ⟨(fun _ => rfl), ?_⟩ | refine ⟨rfl, ?_⟩ | refine Opt.a ?_ | fail)
    · have hge : ¬ (i : Int) < (p.length : Int) := of_decide_eq_false (by assumption)
      have ei : i = P.length := by omega
      have ea : all = P.flatten := by rw [ha, ei, List.take_length]
      have ec : acc = sumN P P.length := by rw [hacc, ei]
      subst ea
      subst ec
      exact ⟨(), (by (refine wk_auto ?_; refine Sel4.mk rfl rfl ?_ ?_ <;> (repeat' (first | exact True.intro | exact rfl | exact Or.inl rfl | exact Or.inr rfl | refine And.intro ?_ ?_ | fail)))), trivial⟩
    · have h := of_decide_eq_true (by assumption : decide ((i : Int) < (p.length : Int)) = true)
      show i < p.length
      omega
    have hlt : i < p.length := by
      have h := of_decide_eq_true (by assumption : decide ((i : Int) < (p.length : Int)) = true)
      omega
    have hbl := hpl _ (List.getElem_mem hlt)
    have hll := linesOf_len p[i]
    have hnx : sumN P (i + 1) = sumN P i + numH (linesOf p[i]) := by rw [sumN, hPi i hlt]
    have hnb := numH_bnd (linesOf p[i])
    have hbd := sumN_bnd P i
    rw [← hacc] at hbd
    have hta : (P.take (i + 1)).flatten = all ++ linesOf p[i] := by
      have hiP : i < P.length := by omega
      have e : P[i] = linesOf p[i] := by
        have := hPi i hlt
        rw [List.getD_eq_getElem?_getD, List.getElem?_eq_getElem hiP] at this
        exact this
      rw [List.take_succ_eq_append_getElem hiP, List.flatten_append, ← ha, e]
      simp
    have hal : all.length ≤ 20000 := by
      have h1 := congrArg (fun x => x.flatten.length) (List.take_append_drop i P)
      have h2 : ((P.take i).flatten ++ (P.drop i).flatten).length = P.flatten.length := by rw [← List.flatten_append, List.take_append_drop]
      have h3 := put_flat p
      have h4 := put_len (l := (p.map linesOf).flatten) (n := 5000) (by omega)
      rw [hP] at h4
      rw [List.length_append] at h2
      rw [ha]; omega
    refine ⟨p[i], rfl, by omega, ?_⟩
    repeat' (first | exact True.intro | refine ⟨_, LeL.refl _, ?_⟩ | refine ⟨_, _, _, LeL.refl _, ?_⟩ | (refine fun (b : Bool) hb => ?_; cases b <;> (first | exact absurd hb (by decide) | exact Bool.noConfusion (show true = false from hb) | exact Bool.noConfusion (show false = true from hb) | skip)) | (refine fun (hl : _ ≤ MAXL) => ?_) | refine And.intro (a := I64 _) ?_ ?_ | refine And.intro (a := _ ≤ 140737488355328) ?_ ?_ | refine ⟨_, ⟨rfl, rfl⟩, ?_⟩ | refine ⟨_, And.intro (a := I64 _) ?_ ⟨rfl, rfl⟩, ?_⟩ | refine ⟨_, _, ⟨rfl, rfl⟩, ?_⟩ | refine ⟨_, (fun _ => ⟨rfl, rfl⟩), ?_⟩ | refine And.intro (a := chkPend _ _ _ _ _ _) ?_ ?_ | refine And.intro (a := chkPast _ _ _ _ _ _ _ _) ?_ ?_ | refine ⟨⟨rfl, rfl⟩, ?_⟩ | refine And.intro (And.intro rfl rfl) ?_ | refine ⟨True.intro, ?_⟩ | refine ⟨_, ⟨_, rfl, ?_, rfl, rfl, rfl⟩, ?_⟩ | refine ⟨_, rfl, ?_, rfl, ?_⟩ | refine ⟨_, (fun _ => rfl), rfl, ?_⟩ | refine ⟨(fun _ => rfl), ?_⟩ | refine ⟨rfl, ?_⟩ | refine Opt.a ?_ | fail)
    · show ((all.map strV).length + ((linesOf p[i]).map strV).length) * 16 ≤ 140737488355328
      rw [List.length_map, List.length_map]
      omega
    · unfold I64
      dsimp only
      omega
    · have h : ¬ (0 : Int) < ((linesOf p[i]).length : Int) := of_decide_eq_false (by assumption)
      have h0 : linesOf p[i] = [] := List.length_eq_zero_iff.1 (by omega)
      have e : sumN P (i + 1) = acc := by rw [hnx, h0, hacc]; show _ + 0 = _; omega
      refine ⟨(i + 1, all ++ linesOf p[i], acc), ?_, ⟨hlt, hta.symm, e.symm⟩, by show p.length - (i + 1) < p.length - i; omega⟩
      (refine wk_auto ?_; refine Sel4.mk rfl rfl ?_ ?_ <;> (repeat' (first | exact True.intro | exact rfl | exact Or.inl rfl | exact Or.inr rfl | refine And.intro ?_ ?_ | fail)))
      show Row.row 1 _ = Row.row 1 _
      rw [List.map_append]
    · have h : (0 : Int) < ((linesOf p[i]).length : Int) := of_decide_eq_true (by assumption)
      have h0 : 0 < (linesOf p[i]).length := by omega
      exact h0
    have h : (0 : Int) < ((linesOf p[i]).length : Int) := of_decide_eq_true (by assumption)
    have hp0 : 0 < (linesOf p[i]).length := by omega
    obtain ⟨s, hs0⟩ : ∃ s, (linesOf p[i])[0] = s := ⟨_, rfl⟩
    have hsm : s ∈ linesOf p[i] := by rw [← hs0]; exact List.getElem_mem _
    have hsl : s.length ≤ 1000000 := by have := linesOf_el p[i] s hsm; omega
    have hnh : numH (linesOf p[i]) = numOf s := by
      cases hq : linesOf p[i] with
      | nil => rw [hq] at hp0; simp at hp0
      | cons x r => simp only [hq] at hs0; rw [← hs0]; rfl
    have nxt : ∀ acc', acc' = sumN P (i + 1) → ((i + 1, all ++ linesOf p[i], acc') : Nat × List Bs × Int).1 ≤ p.length ∧ ((i + 1, all ++ linesOf p[i], acc') : Nat × List Bs × Int).2.1 = (P.take (i + 1)).flatten ∧ ((i + 1, all ++ linesOf p[i], acc') : Nat × List Bs × Int).2.2 = sumN P (i + 1) := fun acc' e => ⟨hlt, hta.symm, e⟩
    conv => whnf
    refine ⟨(linesOf p[i])[0], rfl, by rw [hs0]; omega, fun k hk => ?_, fun n T b hn => ?_⟩
    · rw [hs0] at hk
      have hkb := Lib.atoiAll_bounds hk
      have hno : numOf s = if 0 ≤ k ∧ k ≤ 4000 ∧ Lib.itoa k = s then k else 0 := by unfold numOf; rw [hk]
      have hz : ∀ h : ¬ (0 ≤ k ∧ k ≤ 4000 ∧ Lib.itoa k = s), acc = sumN P (i + 1) := fun h => by rw [hnx, hnh, hno, if_neg h, hacc]; omega
      repeat' (first | exact True.intro | refine ⟨_, LeL.refl _, ?_⟩ | refine ⟨_, _, _, LeL.refl _, ?_⟩ | (refine fun (b : Bool) hb => ?_; cases b <;> (first | exact absurd hb (by decide) | exact Bool.noConfusion (show true = false from hb) | exact Bool.noConfusion (show false = true from hb) | skip)) | (refine fun (hl : _ ≤ MAXL) => ?_) | refine And.intro (a := I64 _) ?_ ?_ | refine And.intro (a := _ ≤ 140737488355328) ?_ ?_ | refine ⟨_, ⟨rfl, rfl⟩, ?_⟩ | refine ⟨_, And.intro (a := I64 _) ?_ ⟨rfl, rfl⟩, ?_⟩ | refine ⟨_, _, ⟨rfl, rfl⟩, ?_⟩ | refine ⟨_, (fun _ => ⟨rfl, rfl⟩), ?_⟩ | refine And.intro (a := chkPend _ _ _ _ _ _) ?_ ?_ | refine And.intro (a := chkPast _ _ _ _ _ _ _ _) ?_ ?_ | refine ⟨⟨rfl, rfl⟩, ?_⟩ | refine And.intro (And.intro rfl rfl) ?_ | refine ⟨True.intro, ?_⟩ | refine ⟨_, ⟨_, rfl, ?_, rfl, rfl, rfl⟩, ?_⟩ | refine ⟨_, rfl, ?_, rfl, ?_⟩ | refine ⟨_, (fun _ => rfl), rfl, ?_⟩ | refine ⟨(fun _ => rfl), ?_⟩ | refine ⟨rfl, ?_⟩ | refine Opt.a ?_ | fail)
      · unfold I64
        dsimp only
        omega
      · have h : ¬ (0 : Int) ≤ k := of_decide_eq_false (by assumption)
        exact ⟨(i + 1, all ++ linesOf p[i], acc), by ((refine wk_auto ?_; refine Sel4.mk rfl rfl ?_ ?_ <;> (repeat' (first | exact True.intro | exact rfl | exact Or.inl rfl | exact Or.inr rfl | refine And.intro ?_ ?_ | fail))); show Row.row 1 _ = Row.row 1 _; rw [List.map_append]), nxt _ (hz (fun e => h e.1)), by show p.length - (i + 1) < p.length - i; omega⟩
      · unfold I64
        dsimp only
        omega
      · have h : ¬ k ≤ 4000 := of_decide_eq_false (by assumption)
        exact ⟨(i + 1, all ++ linesOf p[i], acc), by ((refine wk_auto ?_; refine Sel4.mk rfl rfl ?_ ?_ <;> (repeat' (first | exact True.intro | exact rfl | exact Or.inl rfl | exact Or.inr rfl | refine And.intro ?_ ?_ | fail))); show Row.row 1 _ = Row.row 1 _; rw [List.map_append]), nxt _ (hz (fun e => h e.2.1)), by show p.length - (i + 1) < p.length - i; omega⟩
      apply Exists.intro
      apply And.intro
      · refine ⟨k, rfl, hkb, ?_⟩
        exact ⟨rfl, rfl⟩
      repeat' (first | exact True.intro | refine ⟨_, LeL.refl _, ?_⟩ | refine ⟨_, _, _, LeL.refl _, ?_⟩ | (refine fun (b : Bool) hb => ?_; cases b <;> (first | exact absurd hb (by decide) | exact Bool.noConfusion (show true = false from hb) | exact Bool.noConfusion (show false = true from hb) | skip)) | (refine fun (hl : _ ≤ MAXL) => ?_) | refine And.intro (a := I64 _) ?_ ?_ | refine And.intro (a := _ ≤ 140737488355328) ?_ ?_ | refine ⟨_, ⟨rfl, rfl⟩, ?_⟩ | refine ⟨_, And.intro (a := I64 _) ?_ ⟨rfl, rfl⟩, ?_⟩ | refine ⟨_, _, ⟨rfl, rfl⟩, ?_⟩ | refine ⟨_, (fun _ => ⟨rfl, rfl⟩), ?_⟩ | refine And.intro (a := chkPend _ _ _ _ _ _) ?_ ?_ | refine And.intro (a := chkPast _ _ _ _ _ _ _ _) ?_ ?_ | refine ⟨⟨rfl, rfl⟩, ?_⟩ | refine And.intro (And.intro rfl rfl) ?_ | refine ⟨True.intro, ?_⟩ | refine ⟨_, ⟨_, rfl, ?_, rfl, rfl, rfl⟩, ?_⟩ | refine ⟨_, rfl, ?_, rfl, ?_⟩ | refine ⟨_, (fun _ => rfl), rfl, ?_⟩ | refine ⟨(fun _ => rfl), ?_⟩ | refine ⟨rfl, ?_⟩ | refine Opt.a ?_ | fail)
      · exact hp0
      · unfold I64
        dsimp only
        omega
      · have h : ¬ Lib.itoa k = (linesOf p[i])[0] := of_decide_eq_false (by assumption)
        rw [hs0] at h
        exact ⟨(i + 1, all ++ linesOf p[i], acc), by ((refine wk_auto ?_; refine Sel4.mk rfl rfl ?_ ?_ <;> (repeat' (first | exact True.intro | exact rfl | exact Or.inl rfl | exact Or.inr rfl | refine And.intro ?_ ?_ | fail))); show Row.row 1 _ = Row.row 1 _; rw [List.map_append]), nxt _ (hz (fun e => h e.2.2)), by show p.length - (i + 1) < p.length - i; omega⟩
      · have h2 : k ≤ 4000 := of_decide_eq_true (by assumption)
        unfold I64
        dsimp only
        omega
      · unfold I64
        dsimp only
        omega
      · have h : Lib.itoa k = (linesOf p[i])[0] := of_decide_eq_true (by assumption)
        rw [hs0] at h
        have h1 : (0 : Int) ≤ k := of_decide_eq_true (by assumption)
        have h2 : k ≤ 4000 := of_decide_eq_true (by assumption)
        have e : acc + k = sumN P (i + 1) := by rw [hnx, hnh, hno, if_pos ⟨h1, h2, h⟩, hacc]
        exact ⟨(i + 1, all ++ linesOf p[i], acc + k), by ((refine wk_auto ?_; refine Sel4.mk rfl rfl ?_ ?_ <;> (repeat' (first | exact True.intro | exact rfl | exact Or.inl rfl | exact Or.inr rfl | refine And.intro ?_ ?_ | fail))); show Row.row 1 _ = Row.row 1 _; rw [List.map_append]), nxt _ e, by show p.length - (i + 1) < p.length - i; omega⟩
    · rw [hs0] at hn
      have hno : numOf s = 0 := by
        unfold numOf
        cases h : Lib.atoiAll s with
        | ok k => exact absurd h (hn k)
        | _ => rfl
      have e : acc = sumN P (i + 1) := by rw [hnx, hnh, hno, hacc]; omega
      repeat' (first | exact True.intro | refine ⟨_, LeL.refl _, ?_⟩ | refine ⟨_, _, _, LeL.refl _, ?_⟩ | (refine fun (b : Bool) hb => ?_; cases b <;> (first | exact absurd hb (by decide) | exact Bool.noConfusion (show true = false from hb) | exact Bool.noConfusion (show false = true from hb) | skip)) | (refine fun (hl : _ ≤ MAXL) => ?_) | refine And.intro (a := I64 _) ?_ ?_ | refine And.intro (a := _ ≤ 140737488355328) ?_ ?_ | refine ⟨_, ⟨rfl, rfl⟩, ?_⟩ | refine ⟨_, And.intro (a := I64 _) ?_ ⟨rfl, rfl⟩, ?_⟩ | refine ⟨_, _, ⟨rfl, rfl⟩, ?_⟩ | refine ⟨_, (fun _ => ⟨rfl, rfl⟩), ?_⟩ | refine And.intro (a := chkPend _ _ _ _ _ _) ?_ ?_ | refine And.intro (a := chkPast _ _ _ _ _ _ _ _) ?_ ?_ | refine ⟨⟨rfl, rfl⟩, ?_⟩ | refine And.intro (And.intro rfl rfl) ?_ | refine ⟨True.intro, ?_⟩ | refine ⟨_, ⟨_, rfl, ?_, rfl, rfl, rfl⟩, ?_⟩ | refine ⟨_, rfl, ?_, rfl, ?_⟩ | refine ⟨_, (fun _ => rfl), rfl, ?_⟩ | refine ⟨(fun _ => rfl), ?_⟩ | refine ⟨rfl, ?_⟩ | refine Opt.a ?_ | fail)
      · unfold I64
        dsimp only
        omega
      exact ⟨(i + 1, all ++ linesOf p[i], acc), by ((refine wk_auto ?_; refine Sel4.mk rfl rfl ?_ ?_ <;> (repeat' (first | exact True.intro | exact rfl | exact Or.inl rfl | exact Or.inr rfl | refine And.intro ?_ ?_ | fail))); show Row.row 1 _ = Row.row 1 _; rw [List.map_append]), nxt _ e, by show p.length - (i + 1) < p.length - i; omega⟩
  have hpf := put_flat p
  rw [hP] at hpf
  have hPf := put_len (l := P.flatten) (n := 5000) (by omega)
  have hjp := joinB_put hc4 P (by omega) (by omega)
  have hjd : jd h c p = put (joinB h c P) := by unfold jd; rw [hP]
  rw [hjd] at hK
  have hsb := sumN_bnd P P.length
  repeat' (first | exact True.intro | refine ⟨_, LeL.refl _, ?_⟩ | refine ⟨_, _, _, LeL.refl _, ?_⟩ | (refine fun (b : Bool) hb => ?_; cases b <;> (first | exact absurd hb (by decide) | exact Bool.noConfusion (show true = false from hb) | exact Bool.noConfusion (show false = true from hb) | skip)) | (refine fun (hl : _ ≤ MAXL) => ?_) | refine And.intro (a := I64 _) ?_ ?_ | refine And.intro (a := _ ≤ 140737488355328) ?_ ?_ | refine ⟨_, ⟨rfl, rfl⟩, ?_⟩ | refine ⟨_, And.intro (a := I64 _) ?_ ⟨rfl, rfl⟩, ?_⟩ | refine ⟨_, _, ⟨rfl, rfl⟩, ?_⟩ | refine ⟨_, (fun _ => ⟨rfl, rfl⟩), ?_⟩ | refine And.intro (a := chkPend _ _ _ _ _ _) ?_ ?_ | refine And.intro (a := chkPast _ _ _ _ _ _ _ _) ?_ ?_ | refine ⟨⟨rfl, rfl⟩, ?_⟩ | refine And.intro (And.intro rfl rfl) ?_ | refine ⟨True.intro, ?_⟩ | refine ⟨_, ⟨_, rfl, ?_, rfl, rfl, rfl⟩, ?_⟩ | refine ⟨_, rfl, ?_, rfl, ?_⟩ | refine ⟨_, (fun _ => rfl), rfl, ?_⟩ | refine ⟨(fun _ => rfl), ?_⟩ | refine ⟨rfl, ?_⟩ | refine Opt.a ?_ | fail)
  conv => whnf
  refine join_live [] (σ := Unit) (fun _ => [(7, .sl strV (joinB h c P))]) (fun _ => []) (fun _ => True) ?_
  conv => whnf
  refine ⟨?_, fun _ _ => ?_⟩
  rotate_left
  · repeat' (first | exact True.intro | refine ⟨_, LeL.refl _, ?_⟩ | refine ⟨_, _, _, LeL.refl _, ?_⟩ | (refine fun (b : Bool) hb => ?_; cases b <;> (first | exact absurd hb (by decide) | exact Bool.noConfusion (show true = false from hb) | exact Bool.noConfusion (show false = true from hb) | skip)) | (refine fun (hl : _ ≤ MAXL) => ?_) | refine And.intro (a := I64 _) ?_ ?_ | refine And.intro (a := _ ≤ 140737488355328) ?_ ?_ | refine ⟨_, ⟨rfl, rfl⟩, ?_⟩ | refine ⟨_, And.intro (a := I64 _) ?_ ⟨rfl, rfl⟩, ?_⟩ | refine ⟨_, _, ⟨rfl, rfl⟩, ?_⟩ | refine ⟨_, (fun _ => ⟨rfl, rfl⟩), ?_⟩ | refine And.intro (a := chkPend _ _ _ _ _ _) ?_ ?_ | refine And.intro (a := chkPast _ _ _ _ _ _ _ _) ?_ ?_ | refine ⟨⟨rfl, rfl⟩, ?_⟩ | refine And.intro (And.intro rfl rfl) ?_ | refine ⟨True.intro, ?_⟩ | refine ⟨_, ⟨_, rfl, ?_, rfl, rfl, rfl⟩, ?_⟩ | refine ⟨_, rfl, ?_, rfl, ?_⟩ | refine ⟨_, (fun _ => rfl), rfl, ?_⟩ | refine ⟨(fun _ => rfl), ?_⟩ | refine ⟨rfl, ?_⟩ | refine Opt.a ?_ | fail)
    refine ⟨joinB h c P, rfl, by omega, ?_⟩
    repeat' (first | exact True.intro | refine ⟨_, LeL.refl _, ?_⟩ | refine ⟨_, _, _, LeL.refl _, ?_⟩ | (refine fun (b : Bool) hb => ?_; cases b <;> (first | exact absurd hb (by decide) | exact Bool.noConfusion (show true = false from hb) | exact Bool.noConfusion (show false = true from hb) | skip)) | (refine fun (hl : _ ≤ MAXL) => ?_) | refine And.intro (a := I64 _) ?_ ?_ | refine And.intro (a := _ ≤ 140737488355328) ?_ ?_ | refine ⟨_, ⟨rfl, rfl⟩, ?_⟩ | refine ⟨_, And.intro (a := I64 _) ?_ ⟨rfl, rfl⟩, ?_⟩ | refine ⟨_, _, ⟨rfl, rfl⟩, ?_⟩ | refine ⟨_, (fun _ => ⟨rfl, rfl⟩), ?_⟩ | refine And.intro (a := chkPend _ _ _ _ _ _) ?_ ?_ | refine And.intro (a := chkPast _ _ _ _ _ _ _ _) ?_ ?_ | refine ⟨⟨rfl, rfl⟩, ?_⟩ | refine And.intro (And.intro rfl rfl) ?_ | refine ⟨True.intro, ?_⟩ | refine ⟨_, ⟨_, rfl, ?_, rfl, rfl, rfl⟩, ?_⟩ | refine ⟨_, rfl, ?_, rfl, ?_⟩ | refine ⟨_, (fun _ => rfl), rfl, ?_⟩ | refine ⟨(fun _ => rfl), ?_⟩ | refine ⟨rfl, ?_⟩ | refine Opt.a ?_ | fail)
    exact hK _ rfl
  repeat' (first | exact True.intro | refine ⟨_, LeL.refl _, ?_⟩ | refine ⟨_, _, _, LeL.refl _, ?_⟩ | (refine fun (b : Bool) hb => ?_; cases b <;> (first | exact absurd hb (by decide) | exact Bool.noConfusion (show true = false from hb) | exact Bool.noConfusion (show false = true from hb) | skip)) | (refine fun (hl : _ ≤ MAXL) => ?_) | refine And.intro (a := I64 _) ?_ ?_ | refine And.intro (a := _ ≤ 140737488355328) ?_ ?_ | refine ⟨_, ⟨rfl, rfl⟩, ?_⟩ | refine ⟨_, And.intro (a := I64 _) ?_ ⟨rfl, rfl⟩, ?_⟩ | refine ⟨_, _, ⟨rfl, rfl⟩, ?_⟩ | refine ⟨_, (fun _ => ⟨rfl, rfl⟩), ?_⟩ | refine And.intro (a := chkPend _ _ _ _ _ _) ?_ ?_ | refine And.intro (a := chkPast _ _ _ _ _ _ _ _) ?_ ?_ | refine ⟨⟨rfl, rfl⟩, ?_⟩ | refine And.intro (And.intro rfl rfl) ?_ | refine ⟨True.intro, ?_⟩ | refine ⟨_, ⟨_, rfl, ?_, rfl, rfl, rfl⟩, ?_⟩ | refine ⟨_, rfl, ?_, rfl, ?_⟩ | refine ⟨_, (fun _ => rfl), rfl, ?_⟩ | refine ⟨(fun _ => rfl), ?_⟩ | refine ⟨rfl, ?_⟩ | refine Opt.a ?_ | fail)
  · have h3 : ¬ h = 3 := of_decide_eq_false (by assumption)
    have h4 : ¬ h = 4 := of_decide_eq_false (by assumption)
    have h2 : ¬ h = 2 := of_decide_eq_false (by assumption)
    have e : joinB h c P = P.flatten := by unfold joinB; rw [if_neg h2, if_neg h3, if_neg h4]
    refine ⟨(), ?_, trivial⟩
    rw [e]
    exact (wk_fz 1 rfl (LeL.refl _)).trans (by (refine wk_auto ?_; refine Sel4.mk rfl rfl ?_ ?_ <;> (repeat' (first | exact True.intro | exact rfl | exact Or.inl rfl | exact Or.inr rfl | refine And.intro ?_ ?_ | fail))))
  · have h2 : h = 2 := of_decide_eq_true (by assumption)
    have e : joinB h c P = mergeB P := by unfold joinB; rw [if_pos h2]
    conv => whnf
    refine ⟨p.length, rfl, by show p.length * 8 ≤ 140737488355328; omega, ?_⟩
    conv => whnf
    refine loop_live [2, 14] (σ := List Nat × List Bs) (fun s => [(7, .own 1)]) (fun s => [.dead, .row 1 (s.2.map strV), .row 1 (s.1.map fun (k : Nat) => intV k)]) (fun s => s.1.length = P.length ∧ (∀ i (hi : i < s.1.length) (hj : i < P.length), s.1[i] ≤ P[i].length) ∧ s.2 ++ mergeB (curP P s.1) = mergeB P ∧ s.2.length + (curP P s.1).flatten.length = P.flatten.length) (fun s => (curP P s.1).flatten.length) (List.replicate P.length 0, []) ?_
    conv => whnf
    refine ⟨?_, ⟨by simp, fun i hi hj => by simp, by rw [curP_0]; rfl, by rw [curP_0]; simp⟩, fun s hs => ?_⟩
    · (refine wk_auto ?_; refine Sel4.mk rfl rfl ?_ ?_ <;> (repeat' (first | exact True.intro | exact rfl | exact Or.inl rfl | exact Or.inr rfl | refine And.intro ?_ ?_ | fail)))
      show Row.row 1 ((List.replicate P.length 0).map fun (k : Nat) => intV k) = Row.row 1 (List.replicate p.length (.int .i64 0))
      rw [List.map_replicate, hPl]
      rfl
    obtain ⟨ats, out⟩ := s
    obtain ⟨hal, hab, hom, hol⟩ := hs
    dsimp only at hal hab hom hol
    repeat' (first | exact True.intro | refine ⟨_, LeL.refl _, ?_⟩ | refine ⟨_, _, _, LeL.refl _, ?_⟩ | (refine fun (b : Bool) hb => ?_; cases b <;> (first | exact absurd hb (by decide) | exact Bool.noConfusion (show true = false from hb) | exact Bool.noConfusion (show false = true from hb) | skip)) | (refine fun (hl : _ ≤ MAXL) => ?_) | refine And.intro (a := I64 _) ?_ ?_ | refine And.intro (a := _ ≤ 140737488355328) ?_ ?_ | refine ⟨_, ⟨rfl, rfl⟩, ?_⟩ | refine ⟨_, And.intro (a := I64 _) ?_ ⟨rfl, rfl⟩, ?_⟩ | refine ⟨_, _, ⟨rfl, rfl⟩, ?_⟩ | refine ⟨_, (fun _ => ⟨rfl, rfl⟩), ?_⟩ | refine And.intro (a := chkPend _ _ _ _ _ _) ?_ ?_ | refine And.intro (a := chkPast _ _ _ _ _ _ _ _) ?_ ?_ | refine ⟨⟨rfl, rfl⟩, ?_⟩ | refine And.intro (And.intro rfl rfl) ?_ | refine ⟨True.intro, ?_⟩ | refine ⟨_, ⟨_, rfl, ?_, rfl, rfl, rfl⟩, ?_⟩ | refine ⟨_, rfl, ?_, rfl, ?_⟩ | refine ⟨_, (fun _ => rfl), rfl, ?_⟩ | refine ⟨(fun _ => rfl), ?_⟩ | refine ⟨rfl, ?_⟩ | refine Opt.a ?_ | fail)
    conv => whnf
    refine loop_live [2, 7, 14, 79, 80] (σ := Nat × Int × Bs) (fun s => [(81, .int .i64 s.1), (15, .int .i64 s.2.1), (16, .str s.2.2)]) (fun s => [.dead, .row 1 (out.map strV), .row 1 (ats.map fun (k : Nat) => intV k)]) (fun s => s.1 ≤ p.length ∧ s.2.1 = bestN (best (curP P ats) s.1) ∧ s.2.2 = bestS (best (curP P ats) s.1)) (fun s => p.length - s.1) (0, -1, []) ?_
    conv => whnf
    refine ⟨(by (refine wk_auto ?_; refine Sel4.mk rfl rfl ?_ ?_ <;> (repeat' (first | exact True.intro | exact rfl | exact Or.inl rfl | exact Or.inr rfl | refine And.intro ?_ ?_ | fail)))), ⟨Nat.zero_le _, rfl, rfl⟩, fun s hs => ?_⟩
    obtain ⟨i, bn, bs⟩ := s
    obtain ⟨hi, hbn, hbs⟩ := hs
    dsimp only at hi hbn hbs
    have hql : (curP P ats).length = P.length := curP_len hal
    repeat' (first | exact True.intro | refine ⟨_, LeL.refl _, ?_⟩ | refine ⟨_, _, _, LeL.refl _, ?_⟩ | (refine fun (b : Bool) hb => ?_; cases b <;> (first | exact absurd hb (by decide) | exact Bool.noConfusion (show true = false from hb) | exact Bool.noConfusion (show false = true from hb) | skip)) | (refine fun (hl : _ ≤ MAXL) => ?_) | refine And.intro (a := I64 _) ?_ ?_ | refine And.intro (a := _ ≤ 140737488355328) ?_ ?_ | refine ⟨_, ⟨rfl, rfl⟩, ?_⟩ | refine ⟨_, And.intro (a := I64 _) ?_ ⟨rfl, rfl⟩, ?_⟩ | refine ⟨_, _, ⟨rfl, rfl⟩, ?_⟩ | refine ⟨_, (fun _ => ⟨rfl, rfl⟩), ?_⟩ | refine And.intro (a := chkPend _ _ _ _ _ _) ?_ ?_ | refine And.intro (a := chkPast _ _ _ _ _ _ _ _) ?_ ?_ | refine ⟨⟨rfl, rfl⟩, ?_⟩ | refine And.intro (And.intro rfl rfl) ?_ | refine ⟨True.intro, ?_⟩ | refine ⟨_, ⟨_, rfl, ?_, rfl, rfl, rfl⟩, ?_⟩ | refine ⟨_, rfl, ?_, rfl, ?_⟩ | refine ⟨_, (fun _ => rfl), rfl, ?_⟩ | refine ⟨(fun _ => rfl), ?_⟩ | refine ⟨rfl, ?_⟩ | refine Opt.a ?_ | fail)
    · -- the least one goes
      have hge : ¬ (i : Int) < (p.length : Int) := of_decide_eq_false (by assumption)
      have ei : i = (curP P ats).length := by omega
      have hb : ¬ bn < 0 := of_decide_eq_false (by assumption)
      obtain ⟨j, s, hbt⟩ : ∃ j s, best (curP P ats) i = some (j, s) := by
        cases hq : best (curP P ats) i with
        | none => rw [hq] at hbn; rw [hbn] at hb; exact absurd (show (-1 : Int) < 0 by decide) hb
        | some x => exact ⟨x.1, x.2, rfl⟩
      rw [hbt] at hbn hbs
      have hbn : bn = (j : Int) := hbn
      have hbs : bs = s := hbs
      rw [ei] at hbt
      have hms := mergeB_step hbt
      obtain ⟨hji, ⟨r, hjr⟩, -⟩ := best_some hbt
      have hfl := (flat_part hjr).length_eq
      rw [List.length_cons] at hfl
      have hjP : j < P.length := by omega
      have hja : j < ats.length := by omega
      have hset := curP_set hal hjP
      rw [curP_get hal hjP] at hjr
      have hlt2 : ats[j] < P[j].length := by
        rcases Nat.lt_or_ge ats[j] P[j].length with h | h
        · exact h
        · rw [List.drop_eq_nil_of_le h] at hjr; cases hjr
      have hgj : (ats.map fun (k : Nat) => intV k)[j]? = some (intV ats[j]) := by rw [List.getElem?_map, List.getElem?_eq_getElem hja]; rfl
      have hjm : j < (ats.map fun (k : Nat) => intV k).length := by rw [List.length_map]; exact hja
      have hPj : P[j].length ≤ 4000 := by
        have e : P[j] = linesOf (p[j]'(by omega)) := by
          have := hPi j (by omega)
          rw [List.getD_eq_getElem?_getD, List.getElem?_eq_getElem hjP] at this
          exact this
        have h1 := linesOf_len (p[j]'(by omega))
        have h2 := hpl (p[j]'(by omega)) (List.getElem_mem _)
        rw [e]; omega
      refine ⟨j, hbn, hjm, ?_⟩
      conv => whnf
      refine ⟨_, hgj, ?_⟩
      repeat' (first | exact True.intro | refine ⟨_, LeL.refl _, ?_⟩ | refine ⟨_, _, _, LeL.refl _, ?_⟩ | (refine fun (b : Bool) hb => ?_; cases b <;> (first | exact absurd hb (by decide) | exact Bool.noConfusion (show true = false from hb) | exact Bool.noConfusion (show false = true from hb) | skip)) | (refine fun (hl : _ ≤ MAXL) => ?_) | refine And.intro (a := I64 _) ?_ ?_ | refine And.intro (a := _ ≤ 140737488355328) ?_ ?_ | refine ⟨_, ⟨rfl, rfl⟩, ?_⟩ | refine ⟨_, And.intro (a := I64 _) ?_ ⟨rfl, rfl⟩, ?_⟩ | refine ⟨_, _, ⟨rfl, rfl⟩, ?_⟩ | refine ⟨_, (fun _ => ⟨rfl, rfl⟩), ?_⟩ | refine And.intro (a := chkPend _ _ _ _ _ _) ?_ ?_ | refine And.intro (a := chkPast _ _ _ _ _ _ _ _) ?_ ?_ | refine ⟨⟨rfl, rfl⟩, ?_⟩ | refine And.intro (And.intro rfl rfl) ?_ | refine ⟨True.intro, ?_⟩ | refine ⟨_, ⟨_, rfl, ?_, rfl, rfl, rfl⟩, ?_⟩ | refine ⟨_, rfl, ?_, rfl, ?_⟩ | refine ⟨_, (fun _ => rfl), rfl, ?_⟩ | refine ⟨(fun _ => rfl), ?_⟩ | refine ⟨rfl, ?_⟩ | refine Opt.a ?_ | fail)
      · unfold I64
        omega
      refine ⟨j, hbn, hjm, ?_⟩
      conv => whnf
      refine ⟨hjm, ?_⟩
      repeat' (first | exact True.intro | refine ⟨_, LeL.refl _, ?_⟩ | refine ⟨_, _, _, LeL.refl _, ?_⟩ | (refine fun (b : Bool) hb => ?_; cases b <;> (first | exact absurd hb (by decide) | exact Bool.noConfusion (show true = false from hb) | exact Bool.noConfusion (show false = true from hb) | skip)) | (refine fun (hl : _ ≤ MAXL) => ?_) | refine And.intro (a := I64 _) ?_ ?_ | refine And.intro (a := _ ≤ 140737488355328) ?_ ?_ | refine ⟨_, ⟨rfl, rfl⟩, ?_⟩ | refine ⟨_, And.intro (a := I64 _) ?_ ⟨rfl, rfl⟩, ?_⟩ | refine ⟨_, _, ⟨rfl, rfl⟩, ?_⟩ | refine ⟨_, (fun _ => ⟨rfl, rfl⟩), ?_⟩ | refine And.intro (a := chkPend _ _ _ _ _ _) ?_ ?_ | refine And.intro (a := chkPast _ _ _ _ _ _ _ _) ?_ ?_ | refine ⟨⟨rfl, rfl⟩, ?_⟩ | refine And.intro (And.intro rfl rfl) ?_ | refine ⟨True.intro, ?_⟩ | refine ⟨_, ⟨_, rfl, ?_, rfl, rfl, rfl⟩, ?_⟩ | refine ⟨_, rfl, ?_, rfl, ?_⟩ | refine ⟨_, (fun _ => rfl), rfl, ?_⟩ | refine ⟨(fun _ => rfl), ?_⟩ | refine ⟨rfl, ?_⟩ | refine Opt.a ?_ | fail)
      · show ((out.map strV).length + ([bs].map strV).length) * 16 ≤ 140737488355328
        rw [List.length_map, List.length_map, List.length_singleton]
        omega
      refine ⟨(ats.set j (ats[j] + 1), out ++ [s]), ?_, ⟨?_, ?_, ?_, ?_⟩, ?_⟩
      · (refine wk_auto ?_; refine Sel4.mk rfl rfl ?_ ?_ <;> (repeat' (first | exact True.intro | exact rfl | exact Or.inl rfl | exact Or.inr rfl | refine And.intro ?_ ?_ | fail)))
        · show Row.row 1 _ = Row.row 1 _
          rw [hbs, List.map_append]
          rfl
        · show Row.row 1 _ = Row.row 1 _
          rw [List.map_set]
          rfl
      · show (ats.set j _).length = _
        rw [List.length_set, hal]
      · intro k hk hk2
        show (ats.set j (ats[j] + 1))[k] ≤ _
        rw [List.getElem_set]
        split
        · rename_i ejk
          subst ejk
          omega
        · exact hab k _ hk2
      · show (out ++ [s]) ++ mergeB (curP P (ats.set j (ats[j] + 1))) = _
        rw [hset, List.append_assoc, ← hom, hms]
        rfl
      · show (out ++ [s]).length + (curP P (ats.set j (ats[j] + 1))).flatten.length = _
        rw [hset, List.length_append, List.length_singleton]
        omega
      · show (curP P (ats.set j (ats[j] + 1))).flatten.length < (curP P ats).flatten.length
        rw [hset]
        omega
    · -- none is left
      have hge : ¬ (i : Int) < (p.length : Int) := of_decide_eq_false (by assumption)
      have ei : i = (curP P ats).length := by omega
      have hb : bn < 0 := of_decide_eq_true (by assumption)
      have hn : best (curP P ats) (curP P ats).length = none := by
        rw [← ei]
        cases hq : best (curP P ats) i with
        | none => rfl
        | some x =>
          obtain ⟨j, s⟩ := x
          rw [hq] at hbn
          have hbn : bn = (j : Int) := hbn
          omega
      rw [mergeB_none hn, List.append_nil] at hom
      refine ⟨(), ?_, trivial⟩
      rw [e, ← hom]
      exact (wk_fz 1 rfl (LeL.refl _)).trans (by (refine wk_auto ?_; refine Sel4.mk rfl rfl ?_ ?_ <;> (repeat' (first | exact True.intro | exact rfl | exact Or.inl rfl | exact Or.inr rfl | refine And.intro ?_ ?_ | fail))))
    · have h := of_decide_eq_true (by assumption : decide ((i : Int) < (p.length : Int)) = true)
      show i < p.length
      omega
    all_goals have hlt : i < p.length := by (have h := of_decide_eq_true (by assumption : decide ((i : Int) < (p.length : Int)) = true); omega)
    · have := hpl _ (List.getElem_mem hlt)
      show p[i].length ≤ 1000000
      omega
    have hiP : i < P.length := by omega
    have hia : i < ats.length := by omega
    have hPe : P[i] = linesOf p[i] := by
      have := hPi i hlt
      rw [List.getD_eq_getElem?_getD, List.getElem?_eq_getElem hiP] at this
      exact this
    have hgi : (ats.map fun (k : Nat) => intV k)[i]? = some (intV ats[i]) := by rw [List.getElem?_map, List.getElem?_eq_getElem hia]; rfl
    have him : i < (ats.map fun (k : Nat) => intV k).length := by rw [List.length_map]; exact hia
    have hqi := curP_get hal hiP
    rw [hPe] at hqi
    have hnx := best_next (curP P ats) i
    rw [hqi] at hnx
    refine ⟨i, rfl, him, ?_⟩
    conv => whnf
    refine ⟨_, hgi, ?_⟩
    repeat' (first | exact True.intro | refine ⟨_, LeL.refl _, ?_⟩ | refine ⟨_, _, _, LeL.refl _, ?_⟩ | (refine fun (b : Bool) hb => ?_; cases b <;> (first | exact absurd hb (by decide) | exact Bool.noConfusion (show true = false from hb) | exact Bool.noConfusion (show false = true from hb) | skip)) | (refine fun (hl : _ ≤ MAXL) => ?_) | refine And.intro (a := I64 _) ?_ ?_ | refine And.intro (a := _ ≤ 140737488355328) ?_ ?_ | refine ⟨_, ⟨rfl, rfl⟩, ?_⟩ | refine ⟨_, And.intro (a := I64 _) ?_ ⟨rfl, rfl⟩, ?_⟩ | refine ⟨_, _, ⟨rfl, rfl⟩, ?_⟩ | refine ⟨_, (fun _ => ⟨rfl, rfl⟩), ?_⟩ | refine And.intro (a := chkPend _ _ _ _ _ _) ?_ ?_ | refine And.intro (a := chkPast _ _ _ _ _ _ _ _) ?_ ?_ | refine ⟨⟨rfl, rfl⟩, ?_⟩ | refine And.intro (And.intro rfl rfl) ?_ | refine ⟨True.intro, ?_⟩ | refine ⟨_, ⟨_, rfl, ?_, rfl, rfl, rfl⟩, ?_⟩ | refine ⟨_, rfl, ?_, rfl, ?_⟩ | refine ⟨_, (fun _ => rfl), rfl, ?_⟩ | refine ⟨(fun _ => rfl), ?_⟩ | refine ⟨rfl, ?_⟩ | refine Opt.a ?_ | fail)
    · unfold I64
      dsimp only
      omega
    · have h : ¬ (ats[i] : Int) < ((linesOf p[i]).length : Int) := of_decide_eq_false (by assumption)
      have h0 : (linesOf p[i]).drop ats[i] = [] := List.drop_eq_nil_of_le (by omega)
      rw [h0] at hnx
      have e0 : best (curP P ats) (i + 1) = best (curP P ats) i := hnx
      refine ⟨(i + 1, bn, bs), (by (refine wk_auto ?_; refine Sel4.mk rfl rfl ?_ ?_ <;> (repeat' (first | exact True.intro | exact rfl | exact Or.inl rfl | exact Or.inr rfl | refine And.intro ?_ ?_ | fail)))), ⟨hlt, by rw [e0]; exact hbn, by rw [e0]; exact hbs⟩, by show p.length - (i + 1) < p.length - i; omega⟩
    · have h : (ats[i] : Int) < ((linesOf p[i]).length : Int) := of_decide_eq_true (by assumption)
      have hal2 : ats[i] < (linesOf p[i]).length := by omega
      have hdr : (linesOf p[i]).drop ats[i] = (linesOf p[i])[ats[i]] :: (linesOf p[i]).drop (ats[i] + 1) := List.drop_eq_getElem_cons hal2
      have hb : ¬ bn < 0 := of_decide_eq_false (by assumption)
      obtain ⟨j, t, hbt⟩ : ∃ j t, best (curP P ats) i = some (j, t) := by
        cases hq : best (curP P ats) i with
        | none => rw [hq] at hbn; rw [hbn] at hb; exact absurd (show (-1 : Int) < 0 by decide) hb
        | some x => exact ⟨x.1, x.2, rfl⟩
      rw [hdr, hbt] at hnx
      have hbs2 : bs = t := by rw [hbs, hbt]; rfl
      have hcm : best (curP P ats) (i + 1) = if Op.bytesLess (linesOf p[i])[ats[i]] t = true then some (i, (linesOf p[i])[ats[i]]) else some (j, t) := hnx
      refine ⟨i, rfl, him, ?_⟩
      conv => whnf
      refine ⟨_, hgi, ?_⟩
      repeat' (first | exact True.intro | refine ⟨_, LeL.refl _, ?_⟩ | refine ⟨_, _, _, LeL.refl _, ?_⟩ | (refine fun (b : Bool) hb => ?_; cases b <;> (first | exact absurd hb (by decide) | exact Bool.noConfusion (show true = false from hb) | exact Bool.noConfusion (show false = true from hb) | skip)) | (refine fun (hl : _ ≤ MAXL) => ?_) | refine And.intro (a := I64 _) ?_ ?_ | refine And.intro (a := _ ≤ 140737488355328) ?_ ?_ | refine ⟨_, ⟨rfl, rfl⟩, ?_⟩ | refine ⟨_, And.intro (a := I64 _) ?_ ⟨rfl, rfl⟩, ?_⟩ | refine ⟨_, _, ⟨rfl, rfl⟩, ?_⟩ | refine ⟨_, (fun _ => ⟨rfl, rfl⟩), ?_⟩ | refine And.intro (a := chkPend _ _ _ _ _ _) ?_ ?_ | refine And.intro (a := chkPast _ _ _ _ _ _ _ _) ?_ ?_ | refine ⟨⟨rfl, rfl⟩, ?_⟩ | refine And.intro (And.intro rfl rfl) ?_ | refine ⟨True.intro, ?_⟩ | refine ⟨_, ⟨_, rfl, ?_, rfl, rfl, rfl⟩, ?_⟩ | refine ⟨_, rfl, ?_, rfl, ?_⟩ | refine ⟨_, (fun _ => rfl), rfl, ?_⟩ | refine ⟨(fun _ => rfl), ?_⟩ | refine ⟨rfl, ?_⟩ | refine Opt.a ?_ | fail)
      · exact hal2
      · unfold I64
        dsimp only
        omega
      · have hl2 : Op.bytesLess (linesOf p[i])[ats[i]] bs = false := by assumption
        rw [← hbs2, hl2] at hcm
        have e0 : best (curP P ats) (i + 1) = best (curP P ats) i := by rw [hbt, hcm, hbs2]; rfl
        exact ⟨(i + 1, bn, bs), (by (refine wk_auto ?_; refine Sel4.mk rfl rfl ?_ ?_ <;> (repeat' (first | exact True.intro | exact rfl | exact Or.inl rfl | exact Or.inr rfl | refine And.intro ?_ ?_ | fail)))), ⟨hlt, by rw [e0]; exact hbn, by rw [e0]; exact hbs⟩, by show p.length - (i + 1) < p.length - i; omega⟩
      have hl2 : Op.bytesLess (linesOf p[i])[ats[i]] bs = true := by assumption
      rw [← hbs2, hl2] at hcm
      have e0 : best (curP P ats) (i + 1) = some (i, (linesOf p[i])[ats[i]]) := hcm
      conv => whnf
      refine ⟨_, ⟨rfl, i, rfl, him, ⟨rfl, rfl⟩⟩, ?_⟩
      repeat' (first | exact True.intro | refine ⟨_, LeL.refl _, ?_⟩ | refine ⟨_, _, _, LeL.refl _, ?_⟩ | (refine fun (b : Bool) hb => ?_; cases b <;> (first | exact absurd hb (by decide) | exact Bool.noConfusion (show true = false from hb) | exact Bool.noConfusion (show false = true from hb) | skip)) | (refine fun (hl : _ ≤ MAXL) => ?_) | refine And.intro (a := I64 _) ?_ ?_ | refine And.intro (a := _ ≤ 140737488355328) ?_ ?_ | refine ⟨_, ⟨rfl, rfl⟩, ?_⟩ | refine ⟨_, And.intro (a := I64 _) ?_ ⟨rfl, rfl⟩, ?_⟩ | refine ⟨_, _, ⟨rfl, rfl⟩, ?_⟩ | refine ⟨_, (fun _ => ⟨rfl, rfl⟩), ?_⟩ | refine And.intro (a := chkPend _ _ _ _ _ _) ?_ ?_ | refine And.intro (a := chkPast _ _ _ _ _ _ _ _) ?_ ?_ | refine ⟨⟨rfl, rfl⟩, ?_⟩ | refine And.intro (And.intro rfl rfl) ?_ | refine ⟨True.intro, ?_⟩ | refine ⟨_, ⟨_, rfl, ?_, rfl, rfl, rfl⟩, ?_⟩ | refine ⟨_, rfl, ?_, rfl, ?_⟩ | refine ⟨_, (fun _ => rfl), rfl, ?_⟩ | refine ⟨(fun _ => rfl), ?_⟩ | refine ⟨rfl, ?_⟩ | refine Opt.a ?_ | fail)
      conv => whnf
      refine ⟨_, ⟨_, hgi, ⟨rfl, rfl⟩⟩, ?_⟩
      repeat' (first | exact True.intro | refine ⟨_, LeL.refl _, ?_⟩ | refine ⟨_, _, _, LeL.refl _, ?_⟩ | (refine fun (b : Bool) hb => ?_; cases b <;> (first | exact absurd hb (by decide) | exact Bool.noConfusion (show true = false from hb) | exact Bool.noConfusion (show false = true from hb) | skip)) | (refine fun (hl : _ ≤ MAXL) => ?_) | refine And.intro (a := I64 _) ?_ ?_ | refine And.intro (a := _ ≤ 140737488355328) ?_ ?_ | refine ⟨_, ⟨rfl, rfl⟩, ?_⟩ | refine ⟨_, And.intro (a := I64 _) ?_ ⟨rfl, rfl⟩, ?_⟩ | refine ⟨_, _, ⟨rfl, rfl⟩, ?_⟩ | refine ⟨_, (fun _ => ⟨rfl, rfl⟩), ?_⟩ | refine And.intro (a := chkPend _ _ _ _ _ _) ?_ ?_ | refine And.intro (a := chkPast _ _ _ _ _ _ _ _) ?_ ?_ | refine ⟨⟨rfl, rfl⟩, ?_⟩ | refine And.intro (And.intro rfl rfl) ?_ | refine ⟨True.intro, ?_⟩ | refine ⟨_, ⟨_, rfl, ?_, rfl, rfl, rfl⟩, ?_⟩ | refine ⟨_, rfl, ?_, rfl, ?_⟩ | refine ⟨_, (fun _ => rfl), rfl, ?_⟩ | refine ⟨(fun _ => rfl), ?_⟩ | refine ⟨rfl, ?_⟩ | refine Opt.a ?_ | fail)
      · exact hal2
      · unfold I64
        dsimp only
        omega
      exact ⟨(i + 1, (i : Int), (linesOf p[i])[ats[i]]), (by (refine wk_auto ?_; refine Sel4.mk rfl rfl ?_ ?_ <;> (repeat' (first | exact True.intro | exact rfl | exact Or.inl rfl | exact Or.inr rfl | refine And.intro ?_ ?_ | fail)))), ⟨hlt, by rw [e0]; rfl, by rw [e0]; rfl⟩, by show p.length - (i + 1) < p.length - i; omega⟩
    · have h : (ats[i] : Int) < ((linesOf p[i]).length : Int) := of_decide_eq_true (by assumption)
      have hal2 : ats[i] < (linesOf p[i]).length := by omega
      have hdr : (linesOf p[i]).drop ats[i] = (linesOf p[i])[ats[i]] :: (linesOf p[i]).drop (ats[i] + 1) := List.drop_eq_getElem_cons hal2
      have hb : bn < 0 := of_decide_eq_true (by assumption)
      have hbt : best (curP P ats) i = none := by
        cases hq : best (curP P ats) i with
        | none => rfl
        | some x =>
          obtain ⟨j, s⟩ := x
          rw [hq] at hbn
          have hbn : bn = (j : Int) := hbn
          omega
      rw [hdr, hbt] at hnx
      conv => whnf
      refine ⟨_, ⟨rfl, i, rfl, him, ⟨rfl, rfl⟩⟩, ?_⟩
      repeat' (first | exact True.intro | refine ⟨_, LeL.refl _, ?_⟩ | refine ⟨_, _, _, LeL.refl _, ?_⟩ | (refine fun (b : Bool) hb => ?_; cases b <;> (first | exact absurd hb (by decide) | exact Bool.noConfusion (show true = false from hb) | exact Bool.noConfusion (show false = true from hb) | skip)) | (refine fun (hl : _ ≤ MAXL) => ?_) | refine And.intro (a := I64 _) ?_ ?_ | refine And.intro (a := _ ≤ 140737488355328) ?_ ?_ | refine ⟨_, ⟨rfl, rfl⟩, ?_⟩ | refine ⟨_, And.intro (a := I64 _) ?_ ⟨rfl, rfl⟩, ?_⟩ | refine ⟨_, _, ⟨rfl, rfl⟩, ?_⟩ | refine ⟨_, (fun _ => ⟨rfl, rfl⟩), ?_⟩ | refine And.intro (a := chkPend _ _ _ _ _ _) ?_ ?_ | refine And.intro (a := chkPast _ _ _ _ _ _ _ _) ?_ ?_ | refine ⟨⟨rfl, rfl⟩, ?_⟩ | refine And.intro (And.intro rfl rfl) ?_ | refine ⟨True.intro, ?_⟩ | refine ⟨_, ⟨_, rfl, ?_, rfl, rfl, rfl⟩, ?_⟩ | refine ⟨_, rfl, ?_, rfl, ?_⟩ | refine ⟨_, (fun _ => rfl), rfl, ?_⟩ | refine ⟨(fun _ => rfl), ?_⟩ | refine ⟨rfl, ?_⟩ | refine Opt.a ?_ | fail)
      conv => whnf
      refine ⟨_, ⟨_, hgi, ⟨rfl, rfl⟩⟩, ?_⟩
      repeat' (first | exact True.intro | refine ⟨_, LeL.refl _, ?_⟩ | refine ⟨_, _, _, LeL.refl _, ?_⟩ | (refine fun (b : Bool) hb => ?_; cases b <;> (first | exact absurd hb (by decide) | exact Bool.noConfusion (show true = false from hb) | exact Bool.noConfusion (show false = true from hb) | skip)) | (refine fun (hl : _ ≤ MAXL) => ?_) | refine And.intro (a := I64 _) ?_ ?_ | refine And.intro (a := _ ≤ 140737488355328) ?_ ?_ | refine ⟨_, ⟨rfl, rfl⟩, ?_⟩ | refine ⟨_, And.intro (a := I64 _) ?_ ⟨rfl, rfl⟩, ?_⟩ | refine ⟨_, _, ⟨rfl, rfl⟩, ?_⟩ | refine ⟨_, (fun _ => ⟨rfl, rfl⟩), ?_⟩ | refine And.intro (a := chkPend _ _ _ _ _ _) ?_ ?_ | refine And.intro (a := chkPast _ _ _ _ _ _ _ _) ?_ ?_ | refine ⟨⟨rfl, rfl⟩, ?_⟩ | refine And.intro (And.intro rfl rfl) ?_ | refine ⟨True.intro, ?_⟩ | refine ⟨_, ⟨_, rfl, ?_, rfl, rfl, rfl⟩, ?_⟩ | refine ⟨_, rfl, ?_, rfl, ?_⟩ | refine ⟨_, (fun _ => rfl), rfl, ?_⟩ | refine ⟨(fun _ => rfl), ?_⟩ | refine ⟨rfl, ?_⟩ | refine Opt.a ?_ | fail)
      · exact hal2
      · unfold I64
        dsimp only
        omega
      have e0 : best (curP P ats) (i + 1) = some (i, (linesOf p[i])[ats[i]]) := hnx
      exact ⟨(i + 1, (i : Int), (linesOf p[i])[ats[i]]), (by (refine wk_auto ?_; refine Sel4.mk rfl rfl ?_ ?_ <;> (repeat' (first | exact True.intro | exact rfl | exact Or.inl rfl | exact Or.inr rfl | refine And.intro ?_ ?_ | fail)))), ⟨hlt, by rw [e0]; rfl, by rw [e0]; rfl⟩, by show p.length - (i + 1) < p.length - i; omega⟩
  · have h3 : ¬ h = 3 := of_decide_eq_false (by assumption)
    have h4 : h = 4 := of_decide_eq_true (by assumption)
    have e : joinB h c P = linesC c P.flatten := by unfold joinB; rw [if_neg (by omega), if_neg h3, if_pos h4]
    refine ⟨c, P.flatten, rfl, ⟨hc4 h4, by omega, fun s hs => ?_⟩, ?_⟩
    · have := put_el hs
      omega
    repeat' (first | exact True.intro | refine ⟨_, LeL.refl _, ?_⟩ | refine ⟨_, _, _, LeL.refl _, ?_⟩ | (refine fun (b : Bool) hb => ?_; cases b <;> (first | exact absurd hb (by decide) | exact Bool.noConfusion (show true = false from hb) | exact Bool.noConfusion (show false = true from hb) | skip)) | (refine fun (hl : _ ≤ MAXL) => ?_) | refine And.intro (a := I64 _) ?_ ?_ | refine And.intro (a := _ ≤ 140737488355328) ?_ ?_ | refine ⟨_, ⟨rfl, rfl⟩, ?_⟩ | refine ⟨_, And.intro (a := I64 _) ?_ ⟨rfl, rfl⟩, ?_⟩ | refine ⟨_, _, ⟨rfl, rfl⟩, ?_⟩ | refine ⟨_, (fun _ => ⟨rfl, rfl⟩), ?_⟩ | refine And.intro (a := chkPend _ _ _ _ _ _) ?_ ?_ | refine And.intro (a := chkPast _ _ _ _ _ _ _ _) ?_ ?_ | refine ⟨⟨rfl, rfl⟩, ?_⟩ | refine And.intro (And.intro rfl rfl) ?_ | refine ⟨True.intro, ?_⟩ | refine ⟨_, ⟨_, rfl, ?_, rfl, rfl, rfl⟩, ?_⟩ | refine ⟨_, rfl, ?_, rfl, ?_⟩ | refine ⟨_, (fun _ => rfl), rfl, ?_⟩ | refine ⟨(fun _ => rfl), ?_⟩ | refine ⟨rfl, ?_⟩ | refine Opt.a ?_ | fail)
    refine ⟨(), ?_, trivial⟩
    rw [e]
    exact (by (refine wk_auto ?_; refine Sel4.mk rfl rfl ?_ ?_ <;> (repeat' (first | exact True.intro | exact rfl | exact Or.inl rfl | exact Or.inr rfl | refine And.intro ?_ ?_ | fail))))
  · have h3 : h = 3 := of_decide_eq_true (by assumption)
    have e : joinB h c P = [Lib.itoa (sumN P P.length)] := by unfold joinB; rw [if_neg (by omega), if_pos h3]
    repeat' (first | exact True.intro | refine ⟨_, LeL.refl _, ?_⟩ | refine ⟨_, _, _, LeL.refl _, ?_⟩ | (refine fun (b : Bool) hb => ?_; cases b <;> (first | exact absurd hb (by decide) | exact Bool.noConfusion (show true = false from hb) | exact Bool.noConfusion (show false = true from hb) | skip)) | (refine fun (hl : _ ≤ MAXL) => ?_) | refine And.intro (a := I64 _) ?_ ?_ | refine And.intro (a := _ ≤ 140737488355328) ?_ ?_ | refine ⟨_, ⟨rfl, rfl⟩, ?_⟩ | refine ⟨_, And.intro (a := I64 _) ?_ ⟨rfl, rfl⟩, ?_⟩ | refine ⟨_, _, ⟨rfl, rfl⟩, ?_⟩ | refine ⟨_, (fun _ => ⟨rfl, rfl⟩), ?_⟩ | refine And.intro (a := chkPend _ _ _ _ _ _) ?_ ?_ | refine And.intro (a := chkPast _ _ _ _ _ _ _ _) ?_ ?_ | refine ⟨⟨rfl, rfl⟩, ?_⟩ | refine And.intro (And.intro rfl rfl) ?_ | refine ⟨True.intro, ?_⟩ | refine ⟨_, ⟨_, rfl, ?_, rfl, rfl, rfl⟩, ?_⟩ | refine ⟨_, rfl, ?_, rfl, ?_⟩ | refine ⟨_, (fun _ => rfl), rfl, ?_⟩ | refine ⟨(fun _ => rfl), ?_⟩ | refine ⟨rfl, ?_⟩ | refine Opt.a ?_ | fail)
    refine ⟨sumN P P.length, rfl, ⟨by omega, by omega⟩, ?_⟩
    repeat' (first | exact True.intro | refine ⟨_, LeL.refl _, ?_⟩ | refine ⟨_, _, _, LeL.refl _, ?_⟩ | (refine fun (b : Bool) hb => ?_; cases b <;> (first | exact absurd hb (by decide) | exact Bool.noConfusion (show true = false from hb) | exact Bool.noConfusion (show false = true from hb) | skip)) | (refine fun (hl : _ ≤ MAXL) => ?_) | refine And.intro (a := I64 _) ?_ ?_ | refine And.intro (a := _ ≤ 140737488355328) ?_ ?_ | refine ⟨_, ⟨rfl, rfl⟩, ?_⟩ | refine ⟨_, And.intro (a := I64 _) ?_ ⟨rfl, rfl⟩, ?_⟩ | refine ⟨_, _, ⟨rfl, rfl⟩, ?_⟩ | refine ⟨_, (fun _ => ⟨rfl, rfl⟩), ?_⟩ | refine And.intro (a := chkPend _ _ _ _ _ _) ?_ ?_ | refine And.intro (a := chkPast _ _ _ _ _ _ _ _) ?_ ?_ | refine ⟨⟨rfl, rfl⟩, ?_⟩ | refine And.intro (And.intro rfl rfl) ?_ | refine ⟨True.intro, ?_⟩ | refine ⟨_, ⟨_, rfl, ?_, rfl, rfl, rfl⟩, ?_⟩ | refine ⟨_, rfl, ?_, rfl, ?_⟩ | refine ⟨_, (fun _ => rfl), rfl, ?_⟩ | refine ⟨(fun _ => rfl), ?_⟩ | refine ⟨rfl, ?_⟩ | refine Opt.a ?_ | fail)
    refine ⟨(), ?_, trivial⟩
    rw [e]
    exact (wk_fz (l := [Lib.itoa (sumN P P.length)]) (enc := strV) 2 rfl (LeL.refl _)).trans (by (refine wk_auto ?_; refine Sel4.mk rfl rfl ?_ ?_ <;> (repeat' (first | exact True.intro | exact rfl | exact Or.inl rfl | exact Or.inr rfl | refine And.intro ?_ ?_ | fail))))
end Gv
namespace Gv
variable [Glob] [Laid]
theorem equalB_ca : callable Tryz.prog 24 = true := by kernel_rfl
def equalB_S : Spec := fun args K => ∃ a b : List UInt8, args = [.sl byteV a, .sl byteV b] ∧ K (.bool (decide (a = b)))
noncomputable def equalB_lib : List (Nat × Spec) := []
noncomputable def equalB_fns : List (Nat × FnI) := []
noncomputable def equalB_prims : List (Nat × PSpec) := []
theorem equalB_E : EnvOK ⟨Tryz.prog, tys, equalB_lib, equalB_fns, equalB_prims, []⟩ := env_ok mixed0 tys0 .nil .nil .nil rfl
set_option maxHeartbeats 4000000 in
theorem equalB_ok : Pure Tryz.prog 24 equalB_S := by
  refine pure_by equalB_E 6 (fi := {fn := Tryz.f24, hooks := [], draws := [(6, [0, 0, 3, 7, 0, 0, 48, 112, 255])]}) ⟨Tryz.func24, by kernel_rfl, by kernel_rfl⟩ ?_
  rintro _ K ⟨x, y, rfl, hK⟩
  replace hK : ∀ r, r = .bool (decide (x = y)) → K r := fun r h => h ▸ hK
  repeat' (first | exact True.intro | refine ⟨_, LeL.refl _, ?_⟩ | refine ⟨_, _, _, LeL.refl _, ?_⟩ | (refine fun (b : Bool) hb => ?_; cases b <;> (first | exact absurd hb (by decide) | exact Bool.noConfusion (show true = false from hb) | exact Bool.noConfusion (show false = true from hb) | skip)) | (refine fun (hl : _ ≤ MAXL) => ?_) | refine And.intro (a := I64 _) ?_ ?_ | refine And.intro (a := _ ≤ 140737488355328) ?_ ?_ | refine ⟨_, ⟨rfl, rfl⟩, ?_⟩ | refine ⟨_, And.intro (a := I64 _) ?_ ⟨rfl, rfl⟩, ?_⟩ | refine ⟨_, _, ⟨rfl, rfl⟩, ?_⟩ | refine ⟨_, (fun _ => ⟨rfl, rfl⟩), ?_⟩ | refine And.intro (a := chkPend _ _ _ _ _ _) ?_ ?_ | refine And.intro (a := chkPast _ _ _ _ _ _ _ _) ?_ ?_ | refine ⟨⟨rfl, rfl⟩, ?_⟩ | refine And.intro (And.intro rfl rfl) ?_ | refine ⟨True.intro, ?_⟩ | refine ⟨_, ⟨_, rfl, ?_, rfl, rfl, rfl⟩, ?_⟩ | refine ⟨_, rfl, ?_, rfl, ?_⟩ | refine ⟨_, (fun _ => rfl), rfl, ?_⟩ | refine ⟨(fun _ => rfl), ?_⟩ | refine ⟨rfl, ?_⟩ | refine Opt.a ?_ | fail)
  rotate_left
  · refine hK _ ?_
    congr 1
    grind
  conv => whnf
  refine loop_intro (σ := Nat) (fun i => [(0, .sl byteV x), (1, .sl byteV y), (12, .int .i64 x.length), (13, .int .i64 i), (4, .lit false)]) (fun _ => []) (fun i => i ≤ x.length ∧ x.take i = y.take i) (fun i => x.length - i) 0 (wk_sel [] rfl rfl trivial ?_) ⟨Nat.zero_le _, rfl⟩ ?_
  · (repeat' (first | exact True.intro | exact rfl | exact Or.inl rfl | exact Or.inr rfl | refine And.intro ?_ ?_ | fail))
  intro i ⟨hi, hI⟩
  repeat' (first | exact True.intro | refine ⟨_, LeL.refl _, ?_⟩ | refine ⟨_, _, _, LeL.refl _, ?_⟩ | (refine fun (b : Bool) hb => ?_; cases b <;> (first | exact absurd hb (by decide) | exact Bool.noConfusion (show true = false from hb) | exact Bool.noConfusion (show false = true from hb) | skip)) | (refine fun (hl : _ ≤ MAXL) => ?_) | refine And.intro (a := I64 _) ?_ ?_ | refine And.intro (a := _ ≤ 140737488355328) ?_ ?_ | refine ⟨_, ⟨rfl, rfl⟩, ?_⟩ | refine ⟨_, And.intro (a := I64 _) ?_ ⟨rfl, rfl⟩, ?_⟩ | refine ⟨_, _, ⟨rfl, rfl⟩, ?_⟩ | refine ⟨_, (fun _ => ⟨rfl, rfl⟩), ?_⟩ | refine And.intro (a := chkPend _ _ _ _ _ _) ?_ ?_ | refine And.intro (a := chkPast _ _ _ _ _ _ _ _) ?_ ?_ | refine ⟨⟨rfl, rfl⟩, ?_⟩ | refine And.intro (And.intro rfl rfl) ?_ | refine ⟨True.intro, ?_⟩ | refine ⟨_, ⟨_, rfl, ?_, rfl, rfl, rfl⟩, ?_⟩ | refine ⟨_, rfl, ?_, rfl, ?_⟩ | refine ⟨_, (fun _ => rfl), rfl, ?_⟩ | refine ⟨(fun _ => rfl), ?_⟩ | refine ⟨rfl, ?_⟩ | refine Opt.a ?_ | fail)
  · refine hK _ ?_
    congr 1
    have e : x = y := by
      have h1 : x.take i = x := List.take_of_length_le (by grind)
      have h2 : y.take i = y := List.take_of_length_le (by grind)
      rw [← h1, ← h2, hI]
    simp [e]
  · grind
  · grind
  · unfold I64; grind
  · refine ⟨i + 1, ?_, ⟨?_, ?_⟩, ?_⟩
    · refine wk_sel [] rfl rfl trivial ?_
      (repeat' (first | exact True.intro | exact rfl | exact Or.inl rfl | exact Or.inr rfl | refine And.intro ?_ ?_ | fail))
    · grind
    · have g1 : i < x.length := by grind
      have g2 : i < y.length := by grind
      rw [List.take_succ_eq_append_getElem g1, List.take_succ_eq_append_getElem g2, hI]
      have e : x[i].toNat = y[i].toNat := by grind
      rw [UInt8.toNat_inj.1 e]
    · grind
  · refine hK _ ?_
    congr 1
    grind
end Gv
namespace Gv
variable [Glob] [Laid] [Errs] [Nums]
theorem joinDo_bad {h : Int} {c : Cmd} {p : List Bs} (e : (joinDo h c p).2 ≠ 0) : (joinDo h c p).1 = [] := by
  unfold joinDo at e ⊢
  split
  · rfl
  · rename_i h1
    rw [if_neg h1] at e
    split
    · rfl
    · rename_i h2
      rw [if_neg h2] at e
      split
      · rfl
      · rename_i h3
        rw [if_neg h3] at e
        exact absurd rfl e
theorem joinDo_good {h : Int} {c : Cmd} {p : List Bs} (e : (joinDo h c p).2 = 0) : checkJoin h c = 0 ∧ p.length ≤ 5 ∧ p.flatten.length ≤ 4000 := by
  unfold joinDo at e
  split at e
  · rename_i h1
    exact absurd e h1
  · rename_i h1
    split at e
    · cases e
    · rename_i h2
      split at e
      · cases e
      · rename_i h3
        exact ⟨Decidable.not_not.1 h1, by omega, by omega⟩
theorem joinDo_code (h : Int) (c : Cmd) (p : List Bs) : (joinDo h c p).2 = if checkJoin h c = 0 ∧ (5 < p.length ∨ 4000 < p.flatten.length) then 2 else checkJoin h c := by
  unfold joinDo
  by_cases h1 : checkJoin h c = 0
  · rw [if_neg (by simp [h1])]
    by_cases h2 : 5 < p.length
    · rw [if_pos h2, if_pos ⟨h1, .inl h2⟩]
    · rw [if_neg h2]
      by_cases h3 : 4000 < p.flatten.length
      · rw [if_pos h3, if_pos ⟨h1, .inr h3⟩]
      · rw [if_neg h3, if_neg (by omega), h1]
  · rw [if_pos h1, if_neg (fun e => h1 e.1)]
theorem jSays_ca : callable Tryz.prog 11 = true := by kernel_rfl
def jSays_S : Spec := fun args K => ∃ (h : Int) (c : Cmd) (p : List Bs), args = [.int .i64 h, cmdV c, .sl blV p] ∧ (∀ b ∈ p, b.length ≤ 140737488355328) ∧ K (.bool true)
noncomputable def jSays_lib : List (Nat × Spec) := [(60, spliced_S), (67, for_S), (65, joinDo_S), (61, checkJ_S), (73, checkJR_S), (29, ccmdR_S), (74, howForR_S), (75, joinedR_S), (24, equalB_S)]
noncomputable def jSays_fns : List (Nat × FnI) := []
noncomputable def jSays_prims : List (Nat × PSpec) := []
theorem jSays_E : EnvOK ⟨Tryz.prog, tys, jSays_lib, jSays_fns, jSays_prims, []⟩ := env_ok mixed0 tys0 (.cons spliced_ca spliced_ok (.cons for_ca for_ok (.cons joinDo_ca joinDo_ok (.cons checkJ_ca checkJ_ok (.cons checkJR_ca checkJR_ok (.cons ccmdR_ca ccmdR_ok (.cons howForR_ca howForR_ok (.cons joinedR_ca joinedR_ok (.cons equalB_ca equalB_ok .nil))))))))) .nil .nil rfl
set_option maxHeartbeats 16000000 in
theorem jSays_ok : Pure Tryz.prog 11 jSays_S := by
  refine pure_by jSays_E 6 (fi := {fn := Tryz.f11, hooks := [14], draws := [(3, [0, 1, 0, 0, 15, 31, 63])]}) ⟨Tryz.func11, by kernel_rfl, by kernel_rfl⟩ ?_
  rintro _ K ⟨h, c, p, rfl, hpb, hK⟩
  replace hK : ∀ r, r = .bool true → K r := fun r h => h ▸ hK
  have hce : joinFor ⟨c.kind, c.word, c.n⟩ = if checkCmd c = 0 then (howFor c, 0) else (0, checkCmd c) := rfl
  obtain ⟨w, hw⟩ : ∃ w, checkJoin h c = w := ⟨_, rfl⟩
  obtain ⟨r, hr⟩ : ∃ r, joinDo h c p = r := ⟨_, rfl⟩
  repeat' (first | exact True.intro | refine ⟨_, LeL.refl _, ?_⟩ | refine ⟨_, _, _, LeL.refl _, ?_⟩ | (refine fun (b : Bool) hb => ?_; cases b <;> (first | exact absurd hb (by decide) | exact Bool.noConfusion (show true = false from hb) | exact Bool.noConfusion (show false = true from hb) | skip)) | (refine fun (hl : _ ≤ MAXL) => ?_) | refine And.intro (a := I64 _) ?_ ?_ | refine And.intro (a := _ ≤ 140737488355328) ?_ ?_ | refine ⟨_, ⟨rfl, rfl⟩, ?_⟩ | refine ⟨_, And.intro (a := I64 _) ?_ ⟨rfl, rfl⟩, ?_⟩ | refine ⟨_, _, ⟨rfl, rfl⟩, ?_⟩ | refine ⟨_, (fun _ => ⟨rfl, rfl⟩), ?_⟩ | refine And.intro (a := chkPend _ _ _ _ _ _) ?_ ?_ | refine And.intro (a := chkPast _ _ _ _ _ _ _ _) ?_ ?_ | refine ⟨⟨rfl, rfl⟩, ?_⟩ | refine And.intro (And.intro rfl rfl) ?_ | refine ⟨True.intro, ?_⟩ | refine ⟨_, ⟨_, rfl, ?_, rfl, rfl, rfl⟩, ?_⟩ | refine ⟨_, rfl, ?_, rfl, ?_⟩ | refine ⟨_, (fun _ => rfl), rfl, ?_⟩ | refine ⟨(fun _ => rfl), ?_⟩ | refine ⟨rfl, ?_⟩ | refine Opt.a ?_ | fail)
  refine ⟨h, c, p, rfl, ?_⟩
  rw [hr]
  repeat' (first | exact True.intro | refine ⟨_, LeL.refl _, ?_⟩ | refine ⟨_, _, _, LeL.refl _, ?_⟩ | (refine fun (b : Bool) hb => ?_; cases b <;> (first | exact absurd hb (by decide) | exact Bool.noConfusion (show true = false from hb) | exact Bool.noConfusion (show false = true from hb) | skip)) | (refine fun (hl : _ ≤ MAXL) => ?_) | refine And.intro (a := I64 _) ?_ ?_ | refine And.intro (a := _ ≤ 140737488355328) ?_ ?_ | refine ⟨_, ⟨rfl, rfl⟩, ?_⟩ | refine ⟨_, And.intro (a := I64 _) ?_ ⟨rfl, rfl⟩, ?_⟩ | refine ⟨_, _, ⟨rfl, rfl⟩, ?_⟩ | refine ⟨_, (fun _ => ⟨rfl, rfl⟩), ?_⟩ | refine And.intro (a := chkPend _ _ _ _ _ _) ?_ ?_ | refine And.intro (a := chkPast _ _ _ _ _ _ _ _) ?_ ?_ | refine ⟨⟨rfl, rfl⟩, ?_⟩ | refine And.intro (And.intro rfl rfl) ?_ | refine ⟨True.intro, ?_⟩ | refine ⟨_, ⟨_, rfl, ?_, rfl, rfl, rfl⟩, ?_⟩ | refine ⟨_, rfl, ?_, rfl, ?_⟩ | refine ⟨_, (fun _ => rfl), rfl, ?_⟩ | refine ⟨(fun _ => rfl), ?_⟩ | refine ⟨rfl, ?_⟩ | refine Opt.a ?_ | fail)
  refine ⟨c.kind, c.word, c.n, rfl, ?_⟩
  rw [hce]
  by_cases hq : checkCmd c = 0
  · rw [if_pos hq]
    have hk := kinds hq
    repeat' (first | exact True.intro | refine ⟨_, LeL.refl _, ?_⟩ | refine ⟨_, _, _, LeL.refl _, ?_⟩ | (refine fun (b : Bool) hb => ?_; cases b <;> (first | exact absurd hb (by decide) | exact Bool.noConfusion (show true = false from hb) | exact Bool.noConfusion (show false = true from hb) | skip)) | (refine fun (hl : _ ≤ MAXL) => ?_) | refine And.intro (a := I64 _) ?_ ?_ | refine And.intro (a := _ ≤ 140737488355328) ?_ ?_ | refine ⟨_, ⟨rfl, rfl⟩, ?_⟩ | refine ⟨_, And.intro (a := I64 _) ?_ ⟨rfl, rfl⟩, ?_⟩ | refine ⟨_, _, ⟨rfl, rfl⟩, ?_⟩ | refine ⟨_, (fun _ => ⟨rfl, rfl⟩), ?_⟩ | refine And.intro (a := chkPend _ _ _ _ _ _) ?_ ?_ | refine And.intro (a := chkPast _ _ _ _ _ _ _ _) ?_ ?_ | refine ⟨⟨rfl, rfl⟩, ?_⟩ | refine And.intro (And.intro rfl rfl) ?_ | refine ⟨True.intro, ?_⟩ | refine ⟨_, ⟨_, rfl, ?_, rfl, rfl, rfl⟩, ?_⟩ | refine ⟨_, rfl, ?_, rfl, ?_⟩ | refine ⟨_, (fun _ => rfl), rfl, ?_⟩ | refine ⟨(fun _ => rfl), ?_⟩ | refine ⟨rfl, ?_⟩ | refine Opt.a ?_ | fail)
    apply Exists.intro
    apply And.intro
    · refine ⟨c, rfl, ?_⟩
      rw [hq]
      exact ⟨rfl, rfl⟩
    repeat' (first | exact True.intro | refine ⟨_, LeL.refl _, ?_⟩ | refine ⟨_, _, _, LeL.refl _, ?_⟩ | (refine fun (b : Bool) hb => ?_; cases b <;> (first | exact absurd hb (by decide) | exact Bool.noConfusion (show true = false from hb) | exact Bool.noConfusion (show false = true from hb) | skip)) | (refine fun (hl : _ ≤ MAXL) => ?_) | refine And.intro (a := I64 _) ?_ ?_ | refine And.intro (a := _ ≤ 140737488355328) ?_ ?_ | refine ⟨_, ⟨rfl, rfl⟩, ?_⟩ | refine ⟨_, And.intro (a := I64 _) ?_ ⟨rfl, rfl⟩, ?_⟩ | refine ⟨_, _, ⟨rfl, rfl⟩, ?_⟩ | refine ⟨_, (fun _ => ⟨rfl, rfl⟩), ?_⟩ | refine And.intro (a := chkPend _ _ _ _ _ _) ?_ ?_ | refine And.intro (a := chkPast _ _ _ _ _ _ _ _) ?_ ?_ | refine ⟨⟨rfl, rfl⟩, ?_⟩ | refine And.intro (And.intro rfl rfl) ?_ | refine ⟨True.intro, ?_⟩ | refine ⟨_, ⟨_, rfl, ?_, rfl, rfl, rfl⟩, ?_⟩ | refine ⟨_, rfl, ?_, rfl, ?_⟩ | refine ⟨_, (fun _ => rfl), rfl, ?_⟩ | refine ⟨(fun _ => rfl), ?_⟩ | refine ⟨rfl, ?_⟩ | refine Opt.a ?_ | fail)
    apply Exists.intro
    apply And.intro
    · refine ⟨h, c, rfl, ?_⟩
      rw [hw]
      exact ⟨rfl, rfl⟩
    repeat' (first | exact True.intro | refine ⟨_, LeL.refl _, ?_⟩ | refine ⟨_, _, _, LeL.refl _, ?_⟩ | (refine fun (b : Bool) hb => ?_; cases b <;> (first | exact absurd hb (by decide) | exact Bool.noConfusion (show true = false from hb) | exact Bool.noConfusion (show false = true from hb) | skip)) | (refine fun (hl : _ ≤ MAXL) => ?_) | refine And.intro (a := I64 _) ?_ ?_ | refine And.intro (a := _ ≤ 140737488355328) ?_ ?_ | refine ⟨_, ⟨rfl, rfl⟩, ?_⟩ | refine ⟨_, And.intro (a := I64 _) ?_ ⟨rfl, rfl⟩, ?_⟩ | refine ⟨_, _, ⟨rfl, rfl⟩, ?_⟩ | refine ⟨_, (fun _ => ⟨rfl, rfl⟩), ?_⟩ | refine And.intro (a := chkPend _ _ _ _ _ _) ?_ ?_ | refine And.intro (a := chkPast _ _ _ _ _ _ _ _) ?_ ?_ | refine ⟨⟨rfl, rfl⟩, ?_⟩ | refine And.intro (And.intro rfl rfl) ?_ | refine ⟨True.intro, ?_⟩ | refine ⟨_, ⟨_, rfl, ?_, rfl, rfl, rfl⟩, ?_⟩ | refine ⟨_, rfl, ?_, rfl, ?_⟩ | refine ⟨_, (fun _ => rfl), rfl, ?_⟩ | refine ⟨(fun _ => rfl), ?_⟩ | refine ⟨rfl, ?_⟩ | refine Opt.a ?_ | fail)
    refine ⟨h, c, rfl, ?_⟩
    rw [hw]
    repeat' (first | exact True.intro | refine ⟨_, LeL.refl _, ?_⟩ | refine ⟨_, _, _, LeL.refl _, ?_⟩ | (refine fun (b : Bool) hb => ?_; cases b <;> (first | exact absurd hb (by decide) | exact Bool.noConfusion (show true = false from hb) | exact Bool.noConfusion (show false = true from hb) | skip)) | (refine fun (hl : _ ≤ MAXL) => ?_) | refine And.intro (a := I64 _) ?_ ?_ | refine And.intro (a := _ ≤ 140737488355328) ?_ ?_ | refine ⟨_, ⟨rfl, rfl⟩, ?_⟩ | refine ⟨_, And.intro (a := I64 _) ?_ ⟨rfl, rfl⟩, ?_⟩ | refine ⟨_, _, ⟨rfl, rfl⟩, ?_⟩ | refine ⟨_, (fun _ => ⟨rfl, rfl⟩), ?_⟩ | refine And.intro (a := chkPend _ _ _ _ _ _) ?_ ?_ | refine And.intro (a := chkPast _ _ _ _ _ _ _ _) ?_ ?_ | refine ⟨⟨rfl, rfl⟩, ?_⟩ | refine And.intro (And.intro rfl rfl) ?_ | refine ⟨True.intro, ?_⟩ | refine ⟨_, ⟨_, rfl, ?_, rfl, rfl, rfl⟩, ?_⟩ | refine ⟨_, rfl, ?_, rfl, ?_⟩ | refine ⟨_, (fun _ => rfl), rfl, ?_⟩ | refine ⟨(fun _ => rfl), ?_⟩ | refine ⟨rfl, ?_⟩ | refine Opt.a ?_ | fail)
    all_goals first | exact absurd (by assumption : (!decide (w = w)) = true) (by simp) | skip
    conv => whnf
    refine ⟨c, rfl, by omega, ?_⟩
    repeat' (first | exact True.intro | refine ⟨_, LeL.refl _, ?_⟩ | refine ⟨_, _, _, LeL.refl _, ?_⟩ | (refine fun (b : Bool) hb => ?_; cases b <;> (first | exact absurd hb (by decide) | exact Bool.noConfusion (show true = false from hb) | exact Bool.noConfusion (show false = true from hb) | skip)) | (refine fun (hl : _ ≤ MAXL) => ?_) | refine And.intro (a := I64 _) ?_ ?_ | refine And.intro (a := _ ≤ 140737488355328) ?_ ?_ | refine ⟨_, ⟨rfl, rfl⟩, ?_⟩ | refine ⟨_, And.intro (a := I64 _) ?_ ⟨rfl, rfl⟩, ?_⟩ | refine ⟨_, _, ⟨rfl, rfl⟩, ?_⟩ | refine ⟨_, (fun _ => ⟨rfl, rfl⟩), ?_⟩ | refine And.intro (a := chkPend _ _ _ _ _ _) ?_ ?_ | refine And.intro (a := chkPast _ _ _ _ _ _ _ _) ?_ ?_ | refine ⟨⟨rfl, rfl⟩, ?_⟩ | refine And.intro (And.intro rfl rfl) ?_ | refine ⟨True.intro, ?_⟩ | refine ⟨_, ⟨_, rfl, ?_, rfl, rfl, rfl⟩, ?_⟩ | refine ⟨_, rfl, ?_, rfl, ?_⟩ | refine ⟨_, (fun _ => rfl), rfl, ?_⟩ | refine ⟨(fun _ => rfl), ?_⟩ | refine ⟨rfl, ?_⟩ | refine Opt.a ?_ | fail)
    rotate_left
    all_goals first | exact absurd (by assumption : (!decide ((howFor c, 0).1 = howFor c)) = true) (by simp) | skip
    conv => whnf
    have htl : (p.take (min p.length 6)).length = min p.length 6 := by simp
    refine ⟨min p.length 6, by omega, by omega, ?_⟩
    repeat' (first | exact True.intro | refine ⟨_, LeL.refl _, ?_⟩ | refine ⟨_, _, _, LeL.refl _, ?_⟩ | (refine fun (b : Bool) hb => ?_; cases b <;> (first | exact absurd hb (by decide) | exact Bool.noConfusion (show true = false from hb) | exact Bool.noConfusion (show false = true from hb) | skip)) | (refine fun (hl : _ ≤ MAXL) => ?_) | refine And.intro (a := I64 _) ?_ ?_ | refine And.intro (a := _ ≤ 140737488355328) ?_ ?_ | refine ⟨_, ⟨rfl, rfl⟩, ?_⟩ | refine ⟨_, And.intro (a := I64 _) ?_ ⟨rfl, rfl⟩, ?_⟩ | refine ⟨_, _, ⟨rfl, rfl⟩, ?_⟩ | refine ⟨_, (fun _ => ⟨rfl, rfl⟩), ?_⟩ | refine And.intro (a := chkPend _ _ _ _ _ _) ?_ ?_ | refine And.intro (a := chkPast _ _ _ _ _ _ _ _) ?_ ?_ | refine ⟨⟨rfl, rfl⟩, ?_⟩ | refine And.intro (And.intro rfl rfl) ?_ | refine ⟨True.intro, ?_⟩ | refine ⟨_, ⟨_, rfl, ?_, rfl, rfl, rfl⟩, ?_⟩ | refine ⟨_, rfl, ?_, rfl, ?_⟩ | refine ⟨_, (fun _ => rfl), rfl, ?_⟩ | refine ⟨(fun _ => rfl), ?_⟩ | refine ⟨rfl, ?_⟩ | refine Opt.a ?_ | fail)
    conv => whnf
    refine loop_live [0, 2, 4, 7, 8, 12, 69, 70] (σ := Nat × Int) (fun s => [(71, .int .i64 s.1), (13, .int .i64 s.2)]) (fun _ => [.box (cmdV c).cells]) (fun s => s.1 ≤ (p.take (min p.length 6)).length ∧ s.2 = min 5000 (((p.take s.1).flatten.length : Nat) : Int)) (fun s => (p.take (min p.length 6)).length - s.1) (0, 0) ?_
    conv => whnf
    refine ⟨(by (refine wk_auto ?_; refine Sel4.mk rfl rfl ?_ ?_ <;> (repeat' (first | exact True.intro | exact rfl | exact Or.inl rfl | exact Or.inr rfl | refine And.intro ?_ ?_ | fail)))), ⟨Nat.zero_le _, rfl⟩, fun s hs => ?_⟩
    obtain ⟨i, n⟩ := s
    obtain ⟨hi, hn⟩ := hs
    dsimp only at hi hn
    repeat' (first | exact True.intro | refine ⟨_, LeL.refl _, ?_⟩ | refine ⟨_, _, _, LeL.refl _, ?_⟩ | (refine fun (b : Bool) hb => ?_; cases b <;> (first | exact absurd hb (by decide) | exact Bool.noConfusion (show true = false from hb) | exact Bool.noConfusion (show false = true from hb) | skip)) | (refine fun (hl : _ ≤ MAXL) => ?_) | refine And.intro (a := I64 _) ?_ ?_ | refine And.intro (a := _ ≤ 140737488355328) ?_ ?_ | refine ⟨_, ⟨rfl, rfl⟩, ?_⟩ | refine ⟨_, And.intro (a := I64 _) ?_ ⟨rfl, rfl⟩, ?_⟩ | refine ⟨_, _, ⟨rfl, rfl⟩, ?_⟩ | refine ⟨_, (fun _ => ⟨rfl, rfl⟩), ?_⟩ | refine And.intro (a := chkPend _ _ _ _ _ _) ?_ ?_ | refine And.intro (a := chkPast _ _ _ _ _ _ _ _) ?_ ?_ | refine ⟨⟨rfl, rfl⟩, ?_⟩ | refine And.intro (And.intro rfl rfl) ?_ | refine ⟨True.intro, ?_⟩ | refine ⟨_, ⟨_, rfl, ?_, rfl, rfl, rfl⟩, ?_⟩ | refine ⟨_, rfl, ?_, rfl, ?_⟩ | refine ⟨_, (fun _ => rfl), rfl, ?_⟩ | refine ⟨(fun _ => rfl), ?_⟩ | refine ⟨rfl, ?_⟩ | refine Opt.a ?_ | fail)
    · have hge : ¬ (i : Int) < ((p.take (min p.length 6)).length : Int) := of_decide_eq_false (by assumption)
      have ei : i = min p.length 6 := by omega
      conv => whnf
      refine join_live [0, 2, 4, 7, 8] (σ := Unit) (fun _ => [(12, .int .i64 r.2)]) (fun _ => [.box (cmdV c).cells]) (fun _ => True) ?_
      conv => whnf
      refine ⟨?_, fun _ _ => ?_⟩
      · have hcode := joinDo_code h c p
        rw [hr, hw] at hcode
        have ht5 : p.length ≤ 5 → n = min 5000 ((p.flatten.length : Nat) : Int) := fun h5 => by
          rw [hn, ei, List.take_of_length_le (by omega)]
        repeat' (first | exact True.intro | refine ⟨_, LeL.refl _, ?_⟩ | refine ⟨_, _, _, LeL.refl _, ?_⟩ | (refine fun (b : Bool) hb => ?_; cases b <;> (first | exact absurd hb (by decide) | exact Bool.noConfusion (show true = false from hb) | exact Bool.noConfusion (show false = true from hb) | skip)) | (refine fun (hl : _ ≤ MAXL) => ?_) | refine And.intro (a := I64 _) ?_ ?_ | refine And.intro (a := _ ≤ 140737488355328) ?_ ?_ | refine ⟨_, ⟨rfl, rfl⟩, ?_⟩ | refine ⟨_, And.intro (a := I64 _) ?_ ⟨rfl, rfl⟩, ?_⟩ | refine ⟨_, _, ⟨rfl, rfl⟩, ?_⟩ | refine ⟨_, (fun _ => ⟨rfl, rfl⟩), ?_⟩ | refine And.intro (a := chkPend _ _ _ _ _ _) ?_ ?_ | refine And.intro (a := chkPast _ _ _ _ _ _ _ _) ?_ ?_ | refine ⟨⟨rfl, rfl⟩, ?_⟩ | refine And.intro (And.intro rfl rfl) ?_ | refine ⟨True.intro, ?_⟩ | refine ⟨_, ⟨_, rfl, ?_, rfl, rfl, rfl⟩, ?_⟩ | refine ⟨_, rfl, ?_, rfl, ?_⟩ | refine ⟨_, (fun _ => rfl), rfl, ?_⟩ | refine ⟨(fun _ => rfl), ?_⟩ | refine ⟨rfl, ?_⟩ | refine Opt.a ?_ | fail)
        · have h0 : ¬ w = 0 := of_decide_eq_false (by assumption)
          have e : r.2 = w := by rw [hcode, if_neg (fun x => h0 x.1)]
          conv => whnf
          refine ⟨(), ?_, trivial⟩
          rw [e]
          exact (by (refine wk_auto ?_; refine Sel4.mk rfl rfl ?_ ?_ <;> (repeat' (first | exact True.intro | exact rfl | exact Or.inl rfl | exact Or.inr rfl | refine And.intro ?_ ?_ | fail))))
        · have h1 : ¬ (5 : Int) < (p.length : Int) := of_decide_eq_false (by assumption)
          have h2 : ¬ (4000 : Int) < n := of_decide_eq_false (by assumption)
          have h3 := ht5 (by omega)
          have e : r.2 = w := by rw [hcode, if_neg (fun x => by have := x.2; omega)]
          conv => whnf
          refine ⟨(), ?_, trivial⟩
          rw [e]
          exact (by (refine wk_auto ?_; refine Sel4.mk rfl rfl ?_ ?_ <;> (repeat' (first | exact True.intro | exact rfl | exact Or.inl rfl | exact Or.inr rfl | refine And.intro ?_ ?_ | fail))))
        · have h0 : w = 0 := of_decide_eq_true (by assumption)
          have h1 : ¬ (5 : Int) < (p.length : Int) := of_decide_eq_false (by assumption)
          have h2 : (4000 : Int) < n := of_decide_eq_true (by assumption)
          have h3 := ht5 (by omega)
          have e : r.2 = 2 := by rw [hcode, if_pos ⟨h0, .inr (by omega)⟩]
          conv => whnf
          refine ⟨(), ?_, trivial⟩
          rw [e]
          exact (by (refine wk_auto ?_; refine Sel4.mk rfl rfl ?_ ?_ <;> (repeat' (first | exact True.intro | exact rfl | exact Or.inl rfl | exact Or.inr rfl | refine And.intro ?_ ?_ | fail))))
        · have h0 : w = 0 := of_decide_eq_true (by assumption)
          have h1 : (5 : Int) < (p.length : Int) := of_decide_eq_true (by assumption)
          have e : r.2 = 2 := by rw [hcode, if_pos ⟨h0, .inl (by omega)⟩]
          conv => whnf
          refine ⟨(), ?_, trivial⟩
          rw [e]
          exact (by (refine wk_auto ?_; refine Sel4.mk rfl rfl ?_ ?_ <;> (repeat' (first | exact True.intro | exact rfl | exact Or.inl rfl | exact Or.inr rfl | refine And.intro ?_ ?_ | fail))))
      · repeat' (first | exact True.intro | refine ⟨_, LeL.refl _, ?_⟩ | refine ⟨_, _, _, LeL.refl _, ?_⟩ | (refine fun (b : Bool) hb => ?_; cases b <;> (first | exact absurd hb (by decide) | exact Bool.noConfusion (show true = false from hb) | exact Bool.noConfusion (show false = true from hb) | skip)) | (refine fun (hl : _ ≤ MAXL) => ?_) | refine And.intro (a := I64 _) ?_ ?_ | refine And.intro (a := _ ≤ 140737488355328) ?_ ?_ | refine ⟨_, ⟨rfl, rfl⟩, ?_⟩ | refine ⟨_, And.intro (a := I64 _) ?_ ⟨rfl, rfl⟩, ?_⟩ | refine ⟨_, _, ⟨rfl, rfl⟩, ?_⟩ | refine ⟨_, (fun _ => ⟨rfl, rfl⟩), ?_⟩ | refine And.intro (a := chkPend _ _ _ _ _ _) ?_ ?_ | refine And.intro (a := chkPast _ _ _ _ _ _ _ _) ?_ ?_ | refine ⟨⟨rfl, rfl⟩, ?_⟩ | refine And.intro (And.intro rfl rfl) ?_ | refine ⟨True.intro, ?_⟩ | refine ⟨_, ⟨_, rfl, ?_, rfl, rfl, rfl⟩, ?_⟩ | refine ⟨_, rfl, ?_, rfl, ?_⟩ | refine ⟨_, (fun _ => rfl), rfl, ?_⟩ | refine ⟨(fun _ => rfl), ?_⟩ | refine ⟨rfl, ?_⟩ | refine Opt.a ?_ | fail)
        · have h1 : ¬ r.2 = 0 := of_decide_eq_false (by assumption)
          exact absurd (by assumption : (!decide (r.2 = 0)) = false) (by simp [h1])
        · have h1 : r.2 = 0 := of_decide_eq_true (by assumption)
          have hg := joinDo_good (h := h) (c := c) (p := p) (by rw [hr]; exact h1)
          have hd := jdo_ok hg.1 hg.2.1 hg.2.2
          have hr1 : r.1 = jd h c p := by rw [← hr, hd]
          have hln := jd_len hg.1 hg.2.1 hg.2.2
          conv => whnf
          refine ⟨h, c, p, rfl, ⟨(checkJoin_four hg.1).1, hg.2.1, hg.2.2⟩, ?_⟩
          rw [hr1]
          repeat' (first | exact True.intro | refine ⟨_, LeL.refl _, ?_⟩ | refine ⟨_, _, _, LeL.refl _, ?_⟩ | (refine fun (b : Bool) hb => ?_; cases b <;> (first | exact absurd hb (by decide) | exact Bool.noConfusion (show true = false from hb) | exact Bool.noConfusion (show false = true from hb) | skip)) | (refine fun (hl : _ ≤ MAXL) => ?_) | refine And.intro (a := I64 _) ?_ ?_ | refine And.intro (a := _ ≤ 140737488355328) ?_ ?_ | refine ⟨_, ⟨rfl, rfl⟩, ?_⟩ | refine ⟨_, And.intro (a := I64 _) ?_ ⟨rfl, rfl⟩, ?_⟩ | refine ⟨_, _, ⟨rfl, rfl⟩, ?_⟩ | refine ⟨_, (fun _ => ⟨rfl, rfl⟩), ?_⟩ | refine And.intro (a := chkPend _ _ _ _ _ _) ?_ ?_ | refine And.intro (a := chkPast _ _ _ _ _ _ _ _) ?_ ?_ | refine ⟨⟨rfl, rfl⟩, ?_⟩ | refine And.intro (And.intro rfl rfl) ?_ | refine ⟨True.intro, ?_⟩ | refine ⟨_, ⟨_, rfl, ?_, rfl, rfl, rfl⟩, ?_⟩ | refine ⟨_, rfl, ?_, rfl, ?_⟩ | refine ⟨_, (fun _ => rfl), rfl, ?_⟩ | refine ⟨(fun _ => rfl), ?_⟩ | refine ⟨rfl, ?_⟩ | refine Opt.a ?_ | fail)
          conv => whnf
          refine ⟨jd h c p, jd h c p, rfl, ?_⟩
          rw [decide_eq_true (rfl : jd h c p = jd h c p)]
          repeat' (first | exact True.intro | refine ⟨_, LeL.refl _, ?_⟩ | refine ⟨_, _, _, LeL.refl _, ?_⟩ | (refine fun (b : Bool) hb => ?_; cases b <;> (first | exact absurd hb (by decide) | exact Bool.noConfusion (show true = false from hb) | exact Bool.noConfusion (show false = true from hb) | skip)) | (refine fun (hl : _ ≤ MAXL) => ?_) | refine And.intro (a := I64 _) ?_ ?_ | refine And.intro (a := _ ≤ 140737488355328) ?_ ?_ | refine ⟨_, ⟨rfl, rfl⟩, ?_⟩ | refine ⟨_, And.intro (a := I64 _) ?_ ⟨rfl, rfl⟩, ?_⟩ | refine ⟨_, _, ⟨rfl, rfl⟩, ?_⟩ | refine ⟨_, (fun _ => ⟨rfl, rfl⟩), ?_⟩ | refine And.intro (a := chkPend _ _ _ _ _ _) ?_ ?_ | refine And.intro (a := chkPast _ _ _ _ _ _ _ _) ?_ ?_ | refine ⟨⟨rfl, rfl⟩, ?_⟩ | refine And.intro (And.intro rfl rfl) ?_ | refine ⟨True.intro, ?_⟩ | refine ⟨_, ⟨_, rfl, ?_, rfl, rfl, rfl⟩, ?_⟩ | refine ⟨_, rfl, ?_, rfl, ?_⟩ | refine ⟨_, (fun _ => rfl), rfl, ?_⟩ | refine ⟨(fun _ => rfl), ?_⟩ | refine ⟨rfl, ?_⟩ | refine Opt.a ?_ | fail)
          exact hK _ rfl
        · exact absurd (by assumption : decide (r.2 = r.2) = false) (by simp)
        · have h1 : ¬ r.2 = 0 := by
            have h : (!decide (r.2 = 0)) = true := by assumption
            simpa using h
          have e0 : r.1 = [] := by
            have := joinDo_bad (h := h) (c := c) (p := p) (by rw [hr]; exact h1)
            rw [hr] at this
            exact this
          conv => whnf
          refine hK _ ?_
          rw [e0]
          rfl
    · have h : (i : Int) < ((p.take (min p.length 6)).length : Int) := of_decide_eq_true (by assumption)
      show i < _
      omega
    all_goals have hlt : i < (p.take (min p.length 6)).length := by (have h : (i : Int) < ((p.take (min p.length 6)).length : Int) := of_decide_eq_true (by assumption); omega)
    · unfold I64
      dsimp only
      omega
    · unfold I64
      dsimp only
      omega
    have hlp : i < p.length := by omega
    have hel : (p.take (min p.length 6))[i] = p[i] := List.getElem_take
    have hfl := flat_take hlp
    refine ⟨(i + 1, min 5000 (n + min 5000 ((p.take (min p.length 6))[i].length : Int))), (by (refine wk_auto ?_; refine Sel4.mk rfl rfl ?_ ?_ <;> (repeat' (first | exact True.intro | exact rfl | exact Or.inl rfl | exact Or.inr rfl | refine And.intro ?_ ?_ | fail)))), ⟨hlt, ?_⟩, by show (p.take (min p.length 6)).length - (i + 1) < (p.take (min p.length 6)).length - i; omega⟩
    show min 5000 (n + min 5000 ((p.take (min p.length 6))[i].length : Int)) = min 5000 (((p.take (i + 1)).flatten.length : Nat) : Int)
    rw [hel, hfl, hn]
    omega
  · rw [if_neg hq]
    obtain ⟨q, hqe⟩ : ∃ q, checkCmd c = q := ⟨_, rfl⟩
    rw [hqe] at hq ⊢
    repeat' (first | exact True.intro | refine ⟨_, LeL.refl _, ?_⟩ | refine ⟨_, _, _, LeL.refl _, ?_⟩ | (refine fun (b : Bool) hb => ?_; cases b <;> (first | exact absurd hb (by decide) | exact Bool.noConfusion (show true = false from hb) | exact Bool.noConfusion (show false = true from hb) | skip)) | (refine fun (hl : _ ≤ MAXL) => ?_) | refine And.intro (a := I64 _) ?_ ?_ | refine And.intro (a := _ ≤ 140737488355328) ?_ ?_ | refine ⟨_, ⟨rfl, rfl⟩, ?_⟩ | refine ⟨_, And.intro (a := I64 _) ?_ ⟨rfl, rfl⟩, ?_⟩ | refine ⟨_, _, ⟨rfl, rfl⟩, ?_⟩ | refine ⟨_, (fun _ => ⟨rfl, rfl⟩), ?_⟩ | refine And.intro (a := chkPend _ _ _ _ _ _) ?_ ?_ | refine And.intro (a := chkPast _ _ _ _ _ _ _ _) ?_ ?_ | refine ⟨⟨rfl, rfl⟩, ?_⟩ | refine And.intro (And.intro rfl rfl) ?_ | refine ⟨True.intro, ?_⟩ | refine ⟨_, ⟨_, rfl, ?_, rfl, rfl, rfl⟩, ?_⟩ | refine ⟨_, rfl, ?_, rfl, ?_⟩ | refine ⟨_, (fun _ => rfl), rfl, ?_⟩ | refine ⟨(fun _ => rfl), ?_⟩ | refine ⟨rfl, ?_⟩ | refine Opt.a ?_ | fail)
    apply Exists.intro
    apply And.intro
    · refine ⟨c, rfl, ?_⟩
      rw [hqe]
      exact ⟨rfl, rfl⟩
    repeat' (first | exact True.intro | refine ⟨_, LeL.refl _, ?_⟩ | refine ⟨_, _, _, LeL.refl _, ?_⟩ | (refine fun (b : Bool) hb => ?_; cases b <;> (first | exact absurd hb (by decide) | exact Bool.noConfusion (show true = false from hb) | exact Bool.noConfusion (show false = true from hb) | skip)) | (refine fun (hl : _ ≤ MAXL) => ?_) | refine And.intro (a := I64 _) ?_ ?_ | refine And.intro (a := _ ≤ 140737488355328) ?_ ?_ | refine ⟨_, ⟨rfl, rfl⟩, ?_⟩ | refine ⟨_, And.intro (a := I64 _) ?_ ⟨rfl, rfl⟩, ?_⟩ | refine ⟨_, _, ⟨rfl, rfl⟩, ?_⟩ | refine ⟨_, (fun _ => ⟨rfl, rfl⟩), ?_⟩ | refine And.intro (a := chkPend _ _ _ _ _ _) ?_ ?_ | refine And.intro (a := chkPast _ _ _ _ _ _ _ _) ?_ ?_ | refine ⟨⟨rfl, rfl⟩, ?_⟩ | refine And.intro (And.intro rfl rfl) ?_ | refine ⟨True.intro, ?_⟩ | refine ⟨_, ⟨_, rfl, ?_, rfl, rfl, rfl⟩, ?_⟩ | refine ⟨_, rfl, ?_, rfl, ?_⟩ | refine ⟨_, (fun _ => rfl), rfl, ?_⟩ | refine ⟨(fun _ => rfl), ?_⟩ | refine ⟨rfl, ?_⟩ | refine Opt.a ?_ | fail)
    apply Exists.intro
    apply And.intro
    · refine ⟨h, c, rfl, ?_⟩
      rw [hw]
      exact ⟨rfl, rfl⟩
    repeat' (first | exact True.intro | refine ⟨_, LeL.refl _, ?_⟩ | refine ⟨_, _, _, LeL.refl _, ?_⟩ | (refine fun (b : Bool) hb => ?_; cases b <;> (first | exact absurd hb (by decide) | exact Bool.noConfusion (show true = false from hb) | exact Bool.noConfusion (show false = true from hb) | skip)) | (refine fun (hl : _ ≤ MAXL) => ?_) | refine And.intro (a := I64 _) ?_ ?_ | refine And.intro (a := _ ≤ 140737488355328) ?_ ?_ | refine ⟨_, ⟨rfl, rfl⟩, ?_⟩ | refine ⟨_, And.intro (a := I64 _) ?_ ⟨rfl, rfl⟩, ?_⟩ | refine ⟨_, _, ⟨rfl, rfl⟩, ?_⟩ | refine ⟨_, (fun _ => ⟨rfl, rfl⟩), ?_⟩ | refine And.intro (a := chkPend _ _ _ _ _ _) ?_ ?_ | refine And.intro (a := chkPast _ _ _ _ _ _ _ _) ?_ ?_ | refine ⟨⟨rfl, rfl⟩, ?_⟩ | refine And.intro (And.intro rfl rfl) ?_ | refine ⟨True.intro, ?_⟩ | refine ⟨_, ⟨_, rfl, ?_, rfl, rfl, rfl⟩, ?_⟩ | refine ⟨_, rfl, ?_, rfl, ?_⟩ | refine ⟨_, (fun _ => rfl), rfl, ?_⟩ | refine ⟨(fun _ => rfl), ?_⟩ | refine ⟨rfl, ?_⟩ | refine Opt.a ?_ | fail)
    refine ⟨h, c, rfl, ?_⟩
    rw [hw]
    repeat' (first | exact True.intro | refine ⟨_, LeL.refl _, ?_⟩ | refine ⟨_, _, _, LeL.refl _, ?_⟩ | (refine fun (b : Bool) hb => ?_; cases b <;> (first | exact absurd hb (by decide) | exact Bool.noConfusion (show true = false from hb) | exact Bool.noConfusion (show false = true from hb) | skip)) | (refine fun (hl : _ ≤ MAXL) => ?_) | refine And.intro (a := I64 _) ?_ ?_ | refine And.intro (a := _ ≤ 140737488355328) ?_ ?_ | refine ⟨_, ⟨rfl, rfl⟩, ?_⟩ | refine ⟨_, And.intro (a := I64 _) ?_ ⟨rfl, rfl⟩, ?_⟩ | refine ⟨_, _, ⟨rfl, rfl⟩, ?_⟩ | refine ⟨_, (fun _ => ⟨rfl, rfl⟩), ?_⟩ | refine And.intro (a := chkPend _ _ _ _ _ _) ?_ ?_ | refine And.intro (a := chkPast _ _ _ _ _ _ _ _) ?_ ?_ | refine ⟨⟨rfl, rfl⟩, ?_⟩ | refine And.intro (And.intro rfl rfl) ?_ | refine ⟨True.intro, ?_⟩ | refine ⟨_, ⟨_, rfl, ?_, rfl, rfl, rfl⟩, ?_⟩ | refine ⟨_, rfl, ?_, rfl, ?_⟩ | refine ⟨_, (fun _ => rfl), rfl, ?_⟩ | refine ⟨(fun _ => rfl), ?_⟩ | refine ⟨rfl, ?_⟩ | refine Opt.a ?_ | fail)
    all_goals first | exact absurd (by assumption : (!decide (w = w)) = true) (by simp) | exact absurd (by assumption : (!decide ((0, q).2 = q)) = true) (by simp) | exact absurd (of_decide_eq_true (by assumption : decide (q = 0) = true)) hq | exact absurd (by assumption : (!decide (q = 0)) = false) (by simp [hq]) | skip
    conv => whnf
    have htl : (p.take (min p.length 6)).length = min p.length 6 := by simp
    refine ⟨min p.length 6, by omega, by omega, ?_⟩
    repeat' (first | exact True.intro | refine ⟨_, LeL.refl _, ?_⟩ | refine ⟨_, _, _, LeL.refl _, ?_⟩ | (refine fun (b : Bool) hb => ?_; cases b <;> (first | exact absurd hb (by decide) | exact Bool.noConfusion (show true = false from hb) | exact Bool.noConfusion (show false = true from hb) | skip)) | (refine fun (hl : _ ≤ MAXL) => ?_) | refine And.intro (a := I64 _) ?_ ?_ | refine And.intro (a := _ ≤ 140737488355328) ?_ ?_ | refine ⟨_, ⟨rfl, rfl⟩, ?_⟩ | refine ⟨_, And.intro (a := I64 _) ?_ ⟨rfl, rfl⟩, ?_⟩ | refine ⟨_, _, ⟨rfl, rfl⟩, ?_⟩ | refine ⟨_, (fun _ => ⟨rfl, rfl⟩), ?_⟩ | refine And.intro (a := chkPend _ _ _ _ _ _) ?_ ?_ | refine And.intro (a := chkPast _ _ _ _ _ _ _ _) ?_ ?_ | refine ⟨⟨rfl, rfl⟩, ?_⟩ | refine And.intro (And.intro rfl rfl) ?_ | refine ⟨True.intro, ?_⟩ | refine ⟨_, ⟨_, rfl, ?_, rfl, rfl, rfl⟩, ?_⟩ | refine ⟨_, rfl, ?_, rfl, ?_⟩ | refine ⟨_, (fun _ => rfl), rfl, ?_⟩ | refine ⟨(fun _ => rfl), ?_⟩ | refine ⟨rfl, ?_⟩ | refine Opt.a ?_ | fail)
    conv => whnf
    refine loop_live [0, 2, 4, 7, 8, 12, 69, 70] (σ := Nat × Int) (fun s => [(71, .int .i64 s.1), (13, .int .i64 s.2)]) (fun _ => [.box (cmdV c).cells]) (fun s => s.1 ≤ (p.take (min p.length 6)).length ∧ s.2 = min 5000 (((p.take s.1).flatten.length : Nat) : Int)) (fun s => (p.take (min p.length 6)).length - s.1) (0, 0) ?_
    conv => whnf
    refine ⟨(by (refine wk_auto ?_; refine Sel4.mk rfl rfl ?_ ?_ <;> (repeat' (first | exact True.intro | exact rfl | exact Or.inl rfl | exact Or.inr rfl | refine And.intro ?_ ?_ | fail)))), ⟨Nat.zero_le _, rfl⟩, fun s hs => ?_⟩
    obtain ⟨i, n⟩ := s
    obtain ⟨hi, hn⟩ := hs
    dsimp only at hi hn
    repeat' (first | exact True.intro | refine ⟨_, LeL.refl _, ?_⟩ | refine ⟨_, _, _, LeL.refl _, ?_⟩ | (refine fun (b : Bool) hb => ?_; cases b <;> (first | exact absurd hb (by decide) | exact Bool.noConfusion (show true = false from hb) | exact Bool.noConfusion (show false = true from hb) | skip)) | (refine fun (hl : _ ≤ MAXL) => ?_) | refine And.intro (a := I64 _) ?_ ?_ | refine And.intro (a := _ ≤ 140737488355328) ?_ ?_ | refine ⟨_, ⟨rfl, rfl⟩, ?_⟩ | refine ⟨_, And.intro (a := I64 _) ?_ ⟨rfl, rfl⟩, ?_⟩ | refine ⟨_, _, ⟨rfl, rfl⟩, ?_⟩ | refine ⟨_, (fun _ => ⟨rfl, rfl⟩), ?_⟩ | refine And.intro (a := chkPend _ _ _ _ _ _) ?_ ?_ | refine And.intro (a := chkPast _ _ _ _ _ _ _ _) ?_ ?_ | refine ⟨⟨rfl, rfl⟩, ?_⟩ | refine And.intro (And.intro rfl rfl) ?_ | refine ⟨True.intro, ?_⟩ | refine ⟨_, ⟨_, rfl, ?_, rfl, rfl, rfl⟩, ?_⟩ | refine ⟨_, rfl, ?_, rfl, ?_⟩ | refine ⟨_, (fun _ => rfl), rfl, ?_⟩ | refine ⟨(fun _ => rfl), ?_⟩ | refine ⟨rfl, ?_⟩ | refine Opt.a ?_ | fail)
    · have hge : ¬ (i : Int) < ((p.take (min p.length 6)).length : Int) := of_decide_eq_false (by assumption)
      have ei : i = min p.length 6 := by omega
      conv => whnf
      refine join_live [0, 2, 4, 7, 8] (σ := Unit) (fun _ => [(12, .int .i64 r.2)]) (fun _ => [.box (cmdV c).cells]) (fun _ => True) ?_
      conv => whnf
      refine ⟨?_, fun _ _ => ?_⟩
      · have hcode := joinDo_code h c p
        rw [hr, hw] at hcode
        have ht5 : p.length ≤ 5 → n = min 5000 ((p.flatten.length : Nat) : Int) := fun h5 => by
          rw [hn, ei, List.take_of_length_le (by omega)]
        repeat' (first | exact True.intro | refine ⟨_, LeL.refl _, ?_⟩ | refine ⟨_, _, _, LeL.refl _, ?_⟩ | (refine fun (b : Bool) hb => ?_; cases b <;> (first | exact absurd hb (by decide) | exact Bool.noConfusion (show true = false from hb) | exact Bool.noConfusion (show false = true from hb) | skip)) | (refine fun (hl : _ ≤ MAXL) => ?_) | refine And.intro (a := I64 _) ?_ ?_ | refine And.intro (a := _ ≤ 140737488355328) ?_ ?_ | refine ⟨_, ⟨rfl, rfl⟩, ?_⟩ | refine ⟨_, And.intro (a := I64 _) ?_ ⟨rfl, rfl⟩, ?_⟩ | refine ⟨_, _, ⟨rfl, rfl⟩, ?_⟩ | refine ⟨_, (fun _ => ⟨rfl, rfl⟩), ?_⟩ | refine And.intro (a := chkPend _ _ _ _ _ _) ?_ ?_ | refine And.intro (a := chkPast _ _ _ _ _ _ _ _) ?_ ?_ | refine ⟨⟨rfl, rfl⟩, ?_⟩ | refine And.intro (And.intro rfl rfl) ?_ | refine ⟨True.intro, ?_⟩ | refine ⟨_, ⟨_, rfl, ?_, rfl, rfl, rfl⟩, ?_⟩ | refine ⟨_, rfl, ?_, rfl, ?_⟩ | refine ⟨_, (fun _ => rfl), rfl, ?_⟩ | refine ⟨(fun _ => rfl), ?_⟩ | refine ⟨rfl, ?_⟩ | refine Opt.a ?_ | fail)
        · have h0 : ¬ w = 0 := of_decide_eq_false (by assumption)
          have e : r.2 = w := by rw [hcode, if_neg (fun x => h0 x.1)]
          conv => whnf
          refine ⟨(), ?_, trivial⟩
          rw [e]
          exact (by (refine wk_auto ?_; refine Sel4.mk rfl rfl ?_ ?_ <;> (repeat' (first | exact True.intro | exact rfl | exact Or.inl rfl | exact Or.inr rfl | refine And.intro ?_ ?_ | fail))))
        · have h1 : ¬ (5 : Int) < (p.length : Int) := of_decide_eq_false (by assumption)
          have h2 : ¬ (4000 : Int) < n := of_decide_eq_false (by assumption)
          have h3 := ht5 (by omega)
          have e : r.2 = w := by rw [hcode, if_neg (fun x => by have := x.2; omega)]
          conv => whnf
          refine ⟨(), ?_, trivial⟩
          rw [e]
          exact (by (refine wk_auto ?_; refine Sel4.mk rfl rfl ?_ ?_ <;> (repeat' (first | exact True.intro | exact rfl | exact Or.inl rfl | exact Or.inr rfl | refine And.intro ?_ ?_ | fail))))
        · have h0 : w = 0 := of_decide_eq_true (by assumption)
          have h1 : ¬ (5 : Int) < (p.length : Int) := of_decide_eq_false (by assumption)
          have h2 : (4000 : Int) < n := of_decide_eq_true (by assumption)
          have h3 := ht5 (by omega)
          have e : r.2 = 2 := by rw [hcode, if_pos ⟨h0, .inr (by omega)⟩]
          conv => whnf
          refine ⟨(), ?_, trivial⟩
          rw [e]
          exact (by (refine wk_auto ?_; refine Sel4.mk rfl rfl ?_ ?_ <;> (repeat' (first | exact True.intro | exact rfl | exact Or.inl rfl | exact Or.inr rfl | refine And.intro ?_ ?_ | fail))))
        · have h0 : w = 0 := of_decide_eq_true (by assumption)
          have h1 : (5 : Int) < (p.length : Int) := of_decide_eq_true (by assumption)
          have e : r.2 = 2 := by rw [hcode, if_pos ⟨h0, .inl (by omega)⟩]
          conv => whnf
          refine ⟨(), ?_, trivial⟩
          rw [e]
          exact (by (refine wk_auto ?_; refine Sel4.mk rfl rfl ?_ ?_ <;> (repeat' (first | exact True.intro | exact rfl | exact Or.inl rfl | exact Or.inr rfl | refine And.intro ?_ ?_ | fail))))
      · repeat' (first | exact True.intro | refine ⟨_, LeL.refl _, ?_⟩ | refine ⟨_, _, _, LeL.refl _, ?_⟩ | (refine fun (b : Bool) hb => ?_; cases b <;> (first | exact absurd hb (by decide) | exact Bool.noConfusion (show true = false from hb) | exact Bool.noConfusion (show false = true from hb) | skip)) | (refine fun (hl : _ ≤ MAXL) => ?_) | refine And.intro (a := I64 _) ?_ ?_ | refine And.intro (a := _ ≤ 140737488355328) ?_ ?_ | refine ⟨_, ⟨rfl, rfl⟩, ?_⟩ | refine ⟨_, And.intro (a := I64 _) ?_ ⟨rfl, rfl⟩, ?_⟩ | refine ⟨_, _, ⟨rfl, rfl⟩, ?_⟩ | refine ⟨_, (fun _ => ⟨rfl, rfl⟩), ?_⟩ | refine And.intro (a := chkPend _ _ _ _ _ _) ?_ ?_ | refine And.intro (a := chkPast _ _ _ _ _ _ _ _) ?_ ?_ | refine ⟨⟨rfl, rfl⟩, ?_⟩ | refine And.intro (And.intro rfl rfl) ?_ | refine ⟨True.intro, ?_⟩ | refine ⟨_, ⟨_, rfl, ?_, rfl, rfl, rfl⟩, ?_⟩ | refine ⟨_, rfl, ?_, rfl, ?_⟩ | refine ⟨_, (fun _ => rfl), rfl, ?_⟩ | refine ⟨(fun _ => rfl), ?_⟩ | refine ⟨rfl, ?_⟩ | refine Opt.a ?_ | fail)
        · have h1 : ¬ r.2 = 0 := of_decide_eq_false (by assumption)
          exact absurd (by assumption : (!decide (r.2 = 0)) = false) (by simp [h1])
        · have h1 : r.2 = 0 := of_decide_eq_true (by assumption)
          have hg := joinDo_good (h := h) (c := c) (p := p) (by rw [hr]; exact h1)
          have hd := jdo_ok hg.1 hg.2.1 hg.2.2
          have hr1 : r.1 = jd h c p := by rw [← hr, hd]
          have hln := jd_len hg.1 hg.2.1 hg.2.2
          conv => whnf
          refine ⟨h, c, p, rfl, ⟨(checkJoin_four hg.1).1, hg.2.1, hg.2.2⟩, ?_⟩
          rw [hr1]
          repeat' (first | exact True.intro | refine ⟨_, LeL.refl _, ?_⟩ | refine ⟨_, _, _, LeL.refl _, ?_⟩ | (refine fun (b : Bool) hb => ?_; cases b <;> (first | exact absurd hb (by decide) | exact Bool.noConfusion (show true = false from hb) | exact Bool.noConfusion (show false = true from hb) | skip)) | (refine fun (hl : _ ≤ MAXL) => ?_) | refine And.intro (a := I64 _) ?_ ?_ | refine And.intro (a := _ ≤ 140737488355328) ?_ ?_ | refine ⟨_, ⟨rfl, rfl⟩, ?_⟩ | refine ⟨_, And.intro (a := I64 _) ?_ ⟨rfl, rfl⟩, ?_⟩ | refine ⟨_, _, ⟨rfl, rfl⟩, ?_⟩ | refine ⟨_, (fun _ => ⟨rfl, rfl⟩), ?_⟩ | refine And.intro (a := chkPend _ _ _ _ _ _) ?_ ?_ | refine And.intro (a := chkPast _ _ _ _ _ _ _ _) ?_ ?_ | refine ⟨⟨rfl, rfl⟩, ?_⟩ | refine And.intro (And.intro rfl rfl) ?_ | refine ⟨True.intro, ?_⟩ | refine ⟨_, ⟨_, rfl, ?_, rfl, rfl, rfl⟩, ?_⟩ | refine ⟨_, rfl, ?_, rfl, ?_⟩ | refine ⟨_, (fun _ => rfl), rfl, ?_⟩ | refine ⟨(fun _ => rfl), ?_⟩ | refine ⟨rfl, ?_⟩ | refine Opt.a ?_ | fail)
          conv => whnf
          refine ⟨jd h c p, jd h c p, rfl, ?_⟩
          rw [decide_eq_true (rfl : jd h c p = jd h c p)]
          repeat' (first | exact True.intro | refine ⟨_, LeL.refl _, ?_⟩ | refine ⟨_, _, _, LeL.refl _, ?_⟩ | (refine fun (b : Bool) hb => ?_; cases b <;> (first | exact absurd hb (by decide) | exact Bool.noConfusion (show true = false from hb) | exact Bool.noConfusion (show false = true from hb) | skip)) | (refine fun (hl : _ ≤ MAXL) => ?_) | refine And.intro (a := I64 _) ?_ ?_ | refine And.intro (a := _ ≤ 140737488355328) ?_ ?_ | refine ⟨_, ⟨rfl, rfl⟩, ?_⟩ | refine ⟨_, And.intro (a := I64 _) ?_ ⟨rfl, rfl⟩, ?_⟩ | refine ⟨_, _, ⟨rfl, rfl⟩, ?_⟩ | refine ⟨_, (fun _ => ⟨rfl, rfl⟩), ?_⟩ | refine And.intro (a := chkPend _ _ _ _ _ _) ?_ ?_ | refine And.intro (a := chkPast _ _ _ _ _ _ _ _) ?_ ?_ | refine ⟨⟨rfl, rfl⟩, ?_⟩ | refine And.intro (And.intro rfl rfl) ?_ | refine ⟨True.intro, ?_⟩ | refine ⟨_, ⟨_, rfl, ?_, rfl, rfl, rfl⟩, ?_⟩ | refine ⟨_, rfl, ?_, rfl, ?_⟩ | refine ⟨_, (fun _ => rfl), rfl, ?_⟩ | refine ⟨(fun _ => rfl), ?_⟩ | refine ⟨rfl, ?_⟩ | refine Opt.a ?_ | fail)
          exact hK _ rfl
        · exact absurd (by assumption : decide (r.2 = r.2) = false) (by simp)
        · have h1 : ¬ r.2 = 0 := by
            have h : (!decide (r.2 = 0)) = true := by assumption
            simpa using h
          have e0 : r.1 = [] := by
            have := joinDo_bad (h := h) (c := c) (p := p) (by rw [hr]; exact h1)
            rw [hr] at this
            exact this
          conv => whnf
          refine hK _ ?_
          rw [e0]
          rfl
    · have h : (i : Int) < ((p.take (min p.length 6)).length : Int) := of_decide_eq_true (by assumption)
      show i < _
      omega
    all_goals have hlt : i < (p.take (min p.length 6)).length := by (have h : (i : Int) < ((p.take (min p.length 6)).length : Int) := of_decide_eq_true (by assumption); omega)
    · unfold I64
      dsimp only
      omega
    · unfold I64
      dsimp only
      omega
    have hlp : i < p.length := by omega
    have hel : (p.take (min p.length 6))[i] = p[i] := List.getElem_take
    have hfl := flat_take hlp
    refine ⟨(i + 1, min 5000 (n + min 5000 ((p.take (min p.length 6))[i].length : Int))), (by (refine wk_auto ?_; refine Sel4.mk rfl rfl ?_ ?_ <;> (repeat' (first | exact True.intro | exact rfl | exact Or.inl rfl | exact Or.inr rfl | refine And.intro ?_ ?_ | fail)))), ⟨hlt, ?_⟩, by show (p.take (min p.length 6)).length - (i + 1) < (p.take (min p.length 6)).length - i; omega⟩
    show min 5000 (n + min 5000 ((p.take (min p.length 6))[i].length : Int)) = min 5000 (((p.take (i + 1)).flatten.length : Nat) : Int)
    rw [hel, hfl, hn]
    omega
end Gv
namespace Gv
variable [Glob] [Laid]
theorem opn_cmd : Opn Tryz.prog 48 cmdV (fun _ => True) := ⟨fun en w fuel cs d p h hw => by
  have hl : cs.length = 3 := (opn_width Tryz.underlying48 h).trans (by kernel_rfl)
  obtain ⟨k, _, f1⟩ := opn_field 0 0 1 (T := 3) Tryz.underlying48 rfl rfl rfl (by kernel_rfl) (opn_int Tryz.underlying3) h hw
  obtain ⟨s, _, f2⟩ := opn_field 1 1 1 (T := 9) Tryz.underlying48 rfl rfl rfl (by kernel_rfl) (opn_str Tryz.underlying9) h hw
  obtain ⟨n, _, f3⟩ := opn_field 2 2 1 (T := 3) Tryz.underlying48 rfl rfl rfl (by kernel_rfl) (opn_int Tryz.underlying3) h hw
  have := Fit.cons 0 1 f1 rfl (Fit.cons 1 2 f2 rfl (Fit.cons 2 3 f3 rfl (Fit.last 3 hl)))
  rw [List.drop_zero] at this
  exact ⟨⟨k, s, n⟩, trivial, this⟩⟩
end Gv
namespace Gv
variable [Glob] [Laid] [Errs] [Nums]
def jSaysT_S : Spec := fun args K => ∃ (h : Int) (c : Cmd) (p : List Bs), args = [.int .i64 h, .agg [.int .i64 c.kind, .str c.word, .int .i64 c.n], .sl blV p] ∧ (∀ b ∈ p, b.length ≤ 140737488355328) ∧ K (.bool true)
theorem jSaysT_ok : Pure Tryz.prog 11 jSaysT_S := by
  intro w m args us k a1 a2 a3 a4
  obtain ⟨h, c, p, rfl, a5, a6⟩ := a4
  exact jSays_ok w m _ us k a1 a2 a3 ⟨h, c, p, rfl, a5, a6⟩
theorem opn_cmdE : Opn Tryz.prog 48 (fun c : Cmd => .agg [.int .i64 c.kind, .str c.word, .int .i64 c.n]) (fun _ => True) := opn_cmd
end Gv
