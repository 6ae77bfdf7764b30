/- What functions of the program come to, part 2: in every world; the conditions stand in each theorem. -/
import Derived.Test.YtffljdmmambdjaaDoorF1
set_option linter.unusedVariables false
set_option linter.unusedSectionVars false
set_option linter.unusedSimpArgs false
open Go Go.Proofs Gw Gp
namespace Gv
variable [Glob] [Laid]
def usesTab : List (List Int × Bs) := [([1], [119]), ([2], [119]), ([3], [119]), ([4], [110]), ([5], [45]), ([6], [45]), ([7], [45]), ([8], [45]), ([9], [110]), ([10], [110])]
theorem uses_cases (c : Cmd) : (mget [] usesTab [c.kind] = [] ∧ (c.kind < 1 ∨ 10 < c.kind)) ∨ (mget [] usesTab [c.kind] = [119] ∧ (1 ≤ c.kind ∧ c.kind ≤ 10) ∧ useWord c = true ∧ useN c = false) ∨ (mget [] usesTab [c.kind] = [110] ∧ (1 ≤ c.kind ∧ c.kind ≤ 10) ∧ useWord c = false ∧ useN c = true ∧ c.kind ≠ 3) ∨ (mget [] usesTab [c.kind] = [45] ∧ (1 ≤ c.kind ∧ c.kind ≤ 10) ∧ useWord c = false ∧ useN c = false ∧ c.kind ≠ 3) := by
  unfold useWord useN
  generalize c.kind = k
  by_cases h : 1 ≤ k ∧ k ≤ 10
  · have h2 : k = 1 ∨ k = 2 ∨ k = 3 ∨ k = 4 ∨ k = 5 ∨ k = 6 ∨ k = 7 ∨ k = 8 ∨ k = 9 ∨ k = 10 := by omega
    rcases h2 with rfl | rfl | rfl | rfl | rfl | rfl | rfl | rfl | rfl | rfl <;> decide
  · left
    refine ⟨?_, by omega⟩
    have e : ∀ j : Int, 1 ≤ j → j ≤ 10 → ¬ [j] = [k] := fun j h1 h2 e => by
      simp only [List.cons.injEq, and_true] at e
      omega
    unfold usesTab
    simp only [mget, e 1 (by omega) (by omega), e 2 (by omega) (by omega), e 3 (by omega) (by omega), e 4 (by omega) (by omega), e 5 (by omega) (by omega), e 6 (by omega) (by omega), e 7 (by omega) (by omega), e 8 (by omega) (by omega), e 9 (by omega) (by omega), e 10 (by omega) (by omega), if_false]
theorem ccmdR_ca : callable Tryd.prog 49 = true := by kernel_rfl
def ccmdR_S : Spec := fun args K => ∃ (c : Cmd), args = [cmdV c] ∧ K (.int .i64 (checkCmd c))
noncomputable def ccmdR_lib : List (Nat × Spec) := [(48, isWordR_S)]
noncomputable def ccmdR_fns : List (Nat × FnI) := []
noncomputable def ccmdR_prims : List (Nat × PSpec) := []
theorem ccmdR_E : EnvOK ⟨Tryd.prog, tys, ccmdR_lib, ccmdR_fns, ccmdR_prims, []⟩ := env_ok mixed0 tys0 (.cons isWordR_ca isWordR_ok .nil) .nil .nil rfl
set_option maxHeartbeats 4000000 in
theorem ccmdR_ok : Pure Tryd.prog 49 ccmdR_S := by
  refine pure_by ccmdR_E 6 (fi := {fn := Tryd.f49, hooks := [2], draws := []}) ⟨Tryd.func49, by kernel_rfl, by kernel_rfl⟩ ?_
  rintro _ K ⟨c, rfl, hK⟩
  replace hK : ∀ r, r = .int .i64 (checkCmd c) → K r := fun r h => h ▸ hK
  have hu := uses_cases c
  repeat' (first | exact True.intro | refine ⟨_, LeL.refl _, ?_⟩ | refine ⟨_, _, _, LeL.refl _, ?_⟩ | (refine fun (b : Bool) hb => ?_; cases b <;> (first | exact absurd hb (by decide) | exact Bool.noConfusion (show true = false from hb) | exact Bool.noConfusion (show false = true from hb) | skip)) | (refine fun (hl : _ ≤ MAXL) => ?_) | refine And.intro (a := I64 _) ?_ ?_ | refine And.intro (a := _ ≤ 140737488355328) ?_ ?_ | refine ⟨_, ⟨rfl, rfl⟩, ?_⟩ | refine ⟨_, And.intro (a := I64 _) ?_ ⟨rfl, rfl⟩, ?_⟩ | refine ⟨_, _, ⟨rfl, rfl⟩, ?_⟩ | refine ⟨_, (fun _ => ⟨rfl, rfl⟩), ?_⟩ | refine And.intro (a := chkPend _ _ _ _ _ _) ?_ ?_ | refine And.intro (a := chkPast _ _ _ _ _ _ _ _) ?_ ?_ | refine ⟨⟨rfl, rfl⟩, ?_⟩ | refine And.intro (And.intro rfl rfl) ?_ | refine ⟨True.intro, ?_⟩ | refine ⟨_, ⟨_, rfl, ?_, rfl, rfl, rfl⟩, ?_⟩ | refine ⟨_, rfl, ?_, rfl, ?_⟩ | refine ⟨_, (fun _ => rfl), rfl, ?_⟩ | refine ⟨(fun _ => rfl), ?_⟩ | refine ⟨rfl, ?_⟩ | refine Opt.a ?_ | refine ⟨Bs, strV, ?_⟩ | refine ⟨_, rfl, rfl, rfl, ?_⟩ | fail)
  conv => whnf
  refine join_live [1] (σ := Bs) (fun u => [(3, .str u)]) (fun _ => [.box [.int .i64 c.kind, .str c.word, .int .i64 c.n]]) (fun u => u = mget [] usesTab [c.kind]) ?_
  conv => whnf
  refine ⟨?_, fun u hu1 => ?_⟩
  · repeat' (first | exact True.intro | refine ⟨_, LeL.refl _, ?_⟩ | refine ⟨_, _, _, LeL.refl _, ?_⟩ | (refine fun (b : Bool) hb => ?_; cases b <;> (first | exact absurd hb (by decide) | exact Bool.noConfusion (show true = false from hb) | exact Bool.noConfusion (show false = true from hb) | skip)) | (refine fun (hl : _ ≤ MAXL) => ?_) | refine And.intro (a := I64 _) ?_ ?_ | refine And.intro (a := _ ≤ 140737488355328) ?_ ?_ | refine ⟨_, ⟨rfl, rfl⟩, ?_⟩ | refine ⟨_, And.intro (a := I64 _) ?_ ⟨rfl, rfl⟩, ?_⟩ | refine ⟨_, _, ⟨rfl, rfl⟩, ?_⟩ | refine ⟨_, (fun _ => ⟨rfl, rfl⟩), ?_⟩ | refine And.intro (a := chkPend _ _ _ _ _ _) ?_ ?_ | refine And.intro (a := chkPast _ _ _ _ _ _ _ _) ?_ ?_ | refine ⟨⟨rfl, rfl⟩, ?_⟩ | refine And.intro (And.intro rfl rfl) ?_ | refine ⟨True.intro, ?_⟩ | refine ⟨_, ⟨_, rfl, ?_, rfl, rfl, rfl⟩, ?_⟩ | refine ⟨_, rfl, ?_, rfl, ?_⟩ | refine ⟨_, (fun _ => rfl), rfl, ?_⟩ | refine ⟨(fun _ => rfl), ?_⟩ | refine ⟨rfl, ?_⟩ | refine Opt.a ?_ | refine ⟨Bs, strV, ?_⟩ | fail)
    all_goals try rfl
    refine ⟨[], rfl, ?_⟩
    repeat' (first | exact True.intro | refine ⟨_, LeL.refl _, ?_⟩ | refine ⟨_, _, _, LeL.refl _, ?_⟩ | (refine fun (b : Bool) hb => ?_; cases b <;> (first | exact absurd hb (by decide) | exact Bool.noConfusion (show true = false from hb) | exact Bool.noConfusion (show false = true from hb) | skip)) | (refine fun (hl : _ ≤ MAXL) => ?_) | refine And.intro (a := I64 _) ?_ ?_ | refine And.intro (a := _ ≤ 140737488355328) ?_ ?_ | refine ⟨_, ⟨rfl, rfl⟩, ?_⟩ | refine ⟨_, And.intro (a := I64 _) ?_ ⟨rfl, rfl⟩, ?_⟩ | refine ⟨_, _, ⟨rfl, rfl⟩, ?_⟩ | refine ⟨_, (fun _ => ⟨rfl, rfl⟩), ?_⟩ | refine And.intro (a := chkPend _ _ _ _ _ _) ?_ ?_ | refine And.intro (a := chkPast _ _ _ _ _ _ _ _) ?_ ?_ | refine ⟨⟨rfl, rfl⟩, ?_⟩ | refine And.intro (And.intro rfl rfl) ?_ | refine ⟨True.intro, ?_⟩ | refine ⟨_, ⟨_, rfl, ?_, rfl, rfl, rfl⟩, ?_⟩ | refine ⟨_, rfl, ?_, rfl, ?_⟩ | refine ⟨_, (fun _ => rfl), rfl, ?_⟩ | refine ⟨(fun _ => rfl), ?_⟩ | refine ⟨rfl, ?_⟩ | refine Opt.a ?_ | fail)
    exact ⟨_, (by (refine wk_auto ?_; refine Sel4.mk rfl rfl ?_ ?_ <;> (repeat' (first | exact True.intro | exact rfl | exact Or.inl rfl | exact Or.inr rfl | refine And.intro ?_ ?_ | fail)))), rfl⟩
  rw [← hu1] at hu
  clear hu1
  unfold checkCmd at hK
  rcases hu with ⟨rfl, h1⟩ | ⟨rfl, h1, h2, h3⟩ | ⟨rfl, h1, h2, h3, h4⟩ | ⟨rfl, h1, h2, h3, h4⟩
  · repeat' (first | exact True.intro | refine ⟨_, LeL.refl _, ?_⟩ | refine ⟨_, _, _, LeL.refl _, ?_⟩ | (refine fun (b : Bool) hb => ?_; cases b <;> (first | exact absurd hb (by decide) | exact Bool.noConfusion (show true = false from hb) | exact Bool.noConfusion (show false = true from hb) | skip)) | (refine fun (hl : _ ≤ MAXL) => ?_) | refine And.intro (a := I64 _) ?_ ?_ | refine And.intro (a := _ ≤ 140737488355328) ?_ ?_ | refine ⟨_, ⟨rfl, rfl⟩, ?_⟩ | refine ⟨_, And.intro (a := I64 _) ?_ ⟨rfl, rfl⟩, ?_⟩ | refine ⟨_, _, ⟨rfl, rfl⟩, ?_⟩ | refine ⟨_, (fun _ => ⟨rfl, rfl⟩), ?_⟩ | refine And.intro (a := chkPend _ _ _ _ _ _) ?_ ?_ | refine And.intro (a := chkPast _ _ _ _ _ _ _ _) ?_ ?_ | refine ⟨⟨rfl, rfl⟩, ?_⟩ | refine And.intro (And.intro rfl rfl) ?_ | refine ⟨True.intro, ?_⟩ | refine ⟨_, ⟨_, rfl, ?_, rfl, rfl, rfl⟩, ?_⟩ | refine ⟨_, rfl, ?_, rfl, ?_⟩ | refine ⟨_, (fun _ => rfl), rfl, ?_⟩ | refine ⟨(fun _ => rfl), ?_⟩ | refine ⟨rfl, ?_⟩ | refine Opt.a ?_ | fail)
    refine hK _ ?_
    rw [if_pos h1]
  all_goals
    have h1' : ¬ (c.kind < 1 ∨ 10 < c.kind) := by omega
  · simp only [h1', h2, h3, if_false] at hK
    repeat' (first | exact True.intro | refine ⟨_, LeL.refl _, ?_⟩ | refine ⟨_, _, _, LeL.refl _, ?_⟩ | (refine fun (b : Bool) hb => ?_; cases b <;> (first | exact absurd hb (by decide) | exact Bool.noConfusion (show true = false from hb) | exact Bool.noConfusion (show false = true from hb) | skip)) | (refine fun (hl : _ ≤ MAXL) => ?_) | refine And.intro (a := I64 _) ?_ ?_ | refine And.intro (a := _ ≤ 140737488355328) ?_ ?_ | refine ⟨_, ⟨rfl, rfl⟩, ?_⟩ | refine ⟨_, And.intro (a := I64 _) ?_ ⟨rfl, rfl⟩, ?_⟩ | refine ⟨_, _, ⟨rfl, rfl⟩, ?_⟩ | refine ⟨_, (fun _ => ⟨rfl, rfl⟩), ?_⟩ | refine And.intro (a := chkPend _ _ _ _ _ _) ?_ ?_ | refine And.intro (a := chkPast _ _ _ _ _ _ _ _) ?_ ?_ | refine ⟨⟨rfl, rfl⟩, ?_⟩ | refine And.intro (And.intro rfl rfl) ?_ | refine ⟨True.intro, ?_⟩ | refine ⟨_, ⟨_, rfl, ?_, rfl, rfl, rfl⟩, ?_⟩ | refine ⟨_, rfl, ?_, rfl, ?_⟩ | refine ⟨_, (fun _ => rfl), rfl, ?_⟩ | refine ⟨(fun _ => rfl), ?_⟩ | refine ⟨rfl, ?_⟩ | refine Opt.a ?_ | fail)
    · refine ⟨c.word, rfl, ?_⟩
      repeat' (first | exact True.intro | refine ⟨_, LeL.refl _, ?_⟩ | refine ⟨_, _, _, LeL.refl _, ?_⟩ | (refine fun (b : Bool) hb => ?_; cases b <;> (first | exact absurd hb (by decide) | exact Bool.noConfusion (show true = false from hb) | exact Bool.noConfusion (show false = true from hb) | skip)) | (refine fun (hl : _ ≤ MAXL) => ?_) | refine And.intro (a := I64 _) ?_ ?_ | refine And.intro (a := _ ≤ 140737488355328) ?_ ?_ | refine ⟨_, ⟨rfl, rfl⟩, ?_⟩ | refine ⟨_, And.intro (a := I64 _) ?_ ⟨rfl, rfl⟩, ?_⟩ | refine ⟨_, _, ⟨rfl, rfl⟩, ?_⟩ | refine ⟨_, (fun _ => ⟨rfl, rfl⟩), ?_⟩ | refine And.intro (a := chkPend _ _ _ _ _ _) ?_ ?_ | refine And.intro (a := chkPast _ _ _ _ _ _ _ _) ?_ ?_ | refine ⟨⟨rfl, rfl⟩, ?_⟩ | refine And.intro (And.intro rfl rfl) ?_ | refine ⟨True.intro, ?_⟩ | refine ⟨_, ⟨_, rfl, ?_, rfl, rfl, rfl⟩, ?_⟩ | refine ⟨_, rfl, ?_, rfl, ?_⟩ | refine ⟨_, (fun _ => rfl), rfl, ?_⟩ | refine ⟨(fun _ => rfl), ?_⟩ | refine ⟨rfl, ?_⟩ | refine Opt.a ?_ | fail)
      all_goals (refine hK _ ?_; simp_all; try omega)
    · refine hK _ ?_
      simp_all
  · simp only [h1', h2, h3, if_false] at hK
    repeat' (first | exact True.intro | refine ⟨_, LeL.refl _, ?_⟩ | refine ⟨_, _, _, LeL.refl _, ?_⟩ | (refine fun (b : Bool) hb => ?_; cases b <;> (first | exact absurd hb (by decide) | exact Bool.noConfusion (show true = false from hb) | exact Bool.noConfusion (show false = true from hb) | skip)) | (refine fun (hl : _ ≤ MAXL) => ?_) | refine And.intro (a := I64 _) ?_ ?_ | refine And.intro (a := _ ≤ 140737488355328) ?_ ?_ | refine ⟨_, ⟨rfl, rfl⟩, ?_⟩ | refine ⟨_, And.intro (a := I64 _) ?_ ⟨rfl, rfl⟩, ?_⟩ | refine ⟨_, _, ⟨rfl, rfl⟩, ?_⟩ | refine ⟨_, (fun _ => ⟨rfl, rfl⟩), ?_⟩ | refine And.intro (a := chkPend _ _ _ _ _ _) ?_ ?_ | refine And.intro (a := chkPast _ _ _ _ _ _ _ _) ?_ ?_ | refine ⟨⟨rfl, rfl⟩, ?_⟩ | refine And.intro (And.intro rfl rfl) ?_ | refine ⟨True.intro, ?_⟩ | refine ⟨_, ⟨_, rfl, ?_, rfl, rfl, rfl⟩, ?_⟩ | refine ⟨_, rfl, ?_, rfl, ?_⟩ | refine ⟨_, (fun _ => rfl), rfl, ?_⟩ | refine ⟨(fun _ => rfl), ?_⟩ | refine ⟨rfl, ?_⟩ | refine Opt.a ?_ | fail)
    all_goals (refine hK _ ?_; simp_all; try omega)
  · simp only [h1', h2, h3, if_false] at hK
    repeat' (first | exact True.intro | refine ⟨_, LeL.refl _, ?_⟩ | refine ⟨_, _, _, LeL.refl _, ?_⟩ | (refine fun (b : Bool) hb => ?_; cases b <;> (first | exact absurd hb (by decide) | exact Bool.noConfusion (show true = false from hb) | exact Bool.noConfusion (show false = true from hb) | skip)) | (refine fun (hl : _ ≤ MAXL) => ?_) | refine And.intro (a := I64 _) ?_ ?_ | refine And.intro (a := _ ≤ 140737488355328) ?_ ?_ | refine ⟨_, ⟨rfl, rfl⟩, ?_⟩ | refine ⟨_, And.intro (a := I64 _) ?_ ⟨rfl, rfl⟩, ?_⟩ | refine ⟨_, _, ⟨rfl, rfl⟩, ?_⟩ | refine ⟨_, (fun _ => ⟨rfl, rfl⟩), ?_⟩ | refine And.intro (a := chkPend _ _ _ _ _ _) ?_ ?_ | refine And.intro (a := chkPast _ _ _ _ _ _ _ _) ?_ ?_ | refine ⟨⟨rfl, rfl⟩, ?_⟩ | refine And.intro (And.intro rfl rfl) ?_ | refine ⟨True.intro, ?_⟩ | refine ⟨_, ⟨_, rfl, ?_, rfl, rfl, rfl⟩, ?_⟩ | refine ⟨_, rfl, ?_, rfl, ?_⟩ | refine ⟨_, (fun _ => rfl), rfl, ?_⟩ | refine ⟨(fun _ => rfl), ?_⟩ | refine ⟨rfl, ?_⟩ | refine Opt.a ?_ | fail)
    all_goals (refine hK _ ?_; simp_all; done)
end Gv
namespace Gv
variable [Glob] [Laid]
theorem clineR_ca : callable Tryd.prog 10 = true := by kernel_rfl
def clineR_S : Spec := fun args K => ∃ (l : LineS), args = [lineV l] ∧ K (.int .i64 (checkLine l))
noncomputable def clineR_lib : List (Nat × Spec) := [(48, isWordR_S), (49, ccmdR_S)]
noncomputable def clineR_fns : List (Nat × FnI) := []
noncomputable def clineR_prims : List (Nat × PSpec) := []
theorem clineR_E : EnvOK ⟨Tryd.prog, tys, clineR_lib, clineR_fns, clineR_prims, []⟩ := env_ok mixed0 tys0 (.cons isWordR_ca isWordR_ok (.cons ccmdR_ca ccmdR_ok .nil)) .nil .nil rfl
set_option maxHeartbeats 4000000 in
theorem clineR_ok : Pure Tryd.prog 10 clineR_S := by
  refine pure_by clineR_E 6 (fi := {fn := Tryd.f10, hooks := [], draws := []}) ⟨Tryd.func10, by kernel_rfl, by kernel_rfl⟩ ?_
  rintro _ K ⟨l, rfl, hK⟩
  replace hK : ∀ r, r = .int .i64 (checkLine l) → K r := fun r h => h ▸ hK
  obtain ⟨f, c, t⟩ := l
  unfold checkLine at hK
  dsimp only at hK
  repeat' (first | exact True.intro | refine ⟨_, LeL.refl _, ?_⟩ | refine ⟨_, _, _, LeL.refl _, ?_⟩ | (refine fun (b : Bool) hb => ?_; cases b <;> (first | exact absurd hb (by decide) | exact Bool.noConfusion (show true = false from hb) | exact Bool.noConfusion (show false = true from hb) | skip)) | (refine fun (hl : _ ≤ MAXL) => ?_) | refine And.intro (a := I64 _) ?_ ?_ | refine And.intro (a := _ ≤ 140737488355328) ?_ ?_ | refine ⟨_, ⟨rfl, rfl⟩, ?_⟩ | refine ⟨_, And.intro (a := I64 _) ?_ ⟨rfl, rfl⟩, ?_⟩ | refine ⟨_, _, ⟨rfl, rfl⟩, ?_⟩ | refine ⟨_, (fun _ => ⟨rfl, rfl⟩), ?_⟩ | refine And.intro (a := chkPend _ _ _ _ _ _) ?_ ?_ | refine And.intro (a := chkPast _ _ _ _ _ _ _ _) ?_ ?_ | refine ⟨⟨rfl, rfl⟩, ?_⟩ | refine And.intro (And.intro rfl rfl) ?_ | refine ⟨True.intro, ?_⟩ | refine ⟨_, ⟨_, rfl, ?_, rfl, rfl, rfl⟩, ?_⟩ | refine ⟨_, rfl, ?_, rfl, ?_⟩ | refine ⟨_, (fun _ => rfl), rfl, ?_⟩ | refine ⟨(fun _ => rfl), ?_⟩ | refine ⟨rfl, ?_⟩ | refine Opt.a ?_ | fail)
  rotate_left
  · refine hK _ ?_
    rw [if_pos (by grind)]
  · refine hK _ ?_
    rw [if_pos (by grind)]
  · refine hK _ ?_
    rw [if_pos (by grind)]
  have h1 : ¬ (f.length = 0 ∨ 4 < f.length ∨ 6 < c.length) := by grind
  rw [if_neg h1] at hK
  conv => whnf
  refine loop_live [1, 25, 26] (σ := Nat) (fun i => [(27, .int .i64 i)]) (fun _ => [.box [.sl strV f, .sl cmdV c, .str t]]) (fun i => i ≤ f.length ∧ (f.take i).all isWord = true) (fun i => f.length - i) 0 ?_
  conv => whnf
  refine ⟨(by (refine wk_auto ?_; refine Sel4.mk rfl rfl ?_ ?_ <;> (repeat' (first | exact True.intro | exact rfl | exact Or.inl rfl | exact Or.inr rfl | refine And.intro ?_ ?_ | fail)))), ⟨Nat.zero_le _, rfl⟩, fun i hi => ?_⟩
  obtain ⟨hi, hI⟩ := hi
  repeat' (first | exact True.intro | refine ⟨_, LeL.refl _, ?_⟩ | refine ⟨_, _, _, LeL.refl _, ?_⟩ | (refine fun (b : Bool) hb => ?_; cases b <;> (first | exact absurd hb (by decide) | exact Bool.noConfusion (show true = false from hb) | exact Bool.noConfusion (show false = true from hb) | skip)) | (refine fun (hl : _ ≤ MAXL) => ?_) | refine And.intro (a := I64 _) ?_ ?_ | refine And.intro (a := _ ≤ 140737488355328) ?_ ?_ | refine ⟨_, ⟨rfl, rfl⟩, ?_⟩ | refine ⟨_, And.intro (a := I64 _) ?_ ⟨rfl, rfl⟩, ?_⟩ | refine ⟨_, _, ⟨rfl, rfl⟩, ?_⟩ | refine ⟨_, (fun _ => ⟨rfl, rfl⟩), ?_⟩ | refine And.intro (a := chkPend _ _ _ _ _ _) ?_ ?_ | refine And.intro (a := chkPast _ _ _ _ _ _ _ _) ?_ ?_ | refine ⟨⟨rfl, rfl⟩, ?_⟩ | refine And.intro (And.intro rfl rfl) ?_ | refine ⟨True.intro, ?_⟩ | refine ⟨_, ⟨_, rfl, ?_, rfl, rfl, rfl⟩, ?_⟩ | refine ⟨_, rfl, ?_, rfl, ?_⟩ | refine ⟨_, (fun _ => rfl), rfl, ?_⟩ | refine ⟨(fun _ => rfl), ?_⟩ | refine ⟨rfl, ?_⟩ | refine Opt.a ?_ | fail)
  · have e : f.take i = f := List.take_of_length_le (by grind)
    rw [e] at hI
    refine ⟨t, rfl, ?_⟩
    rw [List.all_append, hI] at hK
    simp only [List.all_cons, List.all_nil, Bool.and_true, Bool.true_and] at hK
    generalize isWord t = wt at hK ⊢
    repeat' (first | exact True.intro | refine ⟨_, LeL.refl _, ?_⟩ | refine ⟨_, _, _, LeL.refl _, ?_⟩ | (refine fun (b : Bool) hb => ?_; cases b <;> (first | exact absurd hb (by decide) | exact Bool.noConfusion (show true = false from hb) | exact Bool.noConfusion (show false = true from hb) | skip)) | (refine fun (hl : _ ≤ MAXL) => ?_) | refine And.intro (a := I64 _) ?_ ?_ | refine And.intro (a := _ ≤ 140737488355328) ?_ ?_ | refine ⟨_, ⟨rfl, rfl⟩, ?_⟩ | refine ⟨_, And.intro (a := I64 _) ?_ ⟨rfl, rfl⟩, ?_⟩ | refine ⟨_, _, ⟨rfl, rfl⟩, ?_⟩ | refine ⟨_, (fun _ => ⟨rfl, rfl⟩), ?_⟩ | refine And.intro (a := chkPend _ _ _ _ _ _) ?_ ?_ | refine And.intro (a := chkPast _ _ _ _ _ _ _ _) ?_ ?_ | refine ⟨⟨rfl, rfl⟩, ?_⟩ | refine And.intro (And.intro rfl rfl) ?_ | refine ⟨True.intro, ?_⟩ | refine ⟨_, ⟨_, rfl, ?_, rfl, rfl, rfl⟩, ?_⟩ | refine ⟨_, rfl, ?_, rfl, ?_⟩ | refine ⟨_, (fun _ => rfl), rfl, ?_⟩ | refine ⟨(fun _ => rfl), ?_⟩ | refine ⟨rfl, ?_⟩ | refine Opt.a ?_ | fail)
    rotate_left
    · refine hK _ ?_
      rw [if_pos (by grind)]
    have hwt : ¬ wt = false := by grind
    rw [if_neg hwt] at hK
    conv => whnf
    refine loop_live [40, 41] (σ := Nat) (fun i => [(42, .int .i64 i)]) (fun _ => [.box [.sl strV f, .sl cmdV c, .str t]]) (fun i => i ≤ c.length ∧ firstBad (c.drop i) = firstBad c) (fun i => c.length - i) 0 ?_
    conv => whnf
    refine ⟨(by (refine wk_auto ?_; refine Sel4.mk rfl rfl ?_ ?_ <;> (repeat' (first | exact True.intro | exact rfl | exact Or.inl rfl | exact Or.inr rfl | refine And.intro ?_ ?_ | fail)))), ⟨Nat.zero_le _, rfl⟩, fun i hi => ?_⟩
    obtain ⟨hi, hJ⟩ := hi
    repeat' (first | exact True.intro | refine ⟨_, LeL.refl _, ?_⟩ | refine ⟨_, _, _, LeL.refl _, ?_⟩ | (refine fun (b : Bool) hb => ?_; cases b <;> (first | exact absurd hb (by decide) | exact Bool.noConfusion (show true = false from hb) | exact Bool.noConfusion (show false = true from hb) | skip)) | (refine fun (hl : _ ≤ MAXL) => ?_) | refine And.intro (a := I64 _) ?_ ?_ | refine And.intro (a := _ ≤ 140737488355328) ?_ ?_ | refine ⟨_, ⟨rfl, rfl⟩, ?_⟩ | refine ⟨_, And.intro (a := I64 _) ?_ ⟨rfl, rfl⟩, ?_⟩ | refine ⟨_, _, ⟨rfl, rfl⟩, ?_⟩ | refine ⟨_, (fun _ => ⟨rfl, rfl⟩), ?_⟩ | refine And.intro (a := chkPend _ _ _ _ _ _) ?_ ?_ | refine And.intro (a := chkPast _ _ _ _ _ _ _ _) ?_ ?_ | refine ⟨⟨rfl, rfl⟩, ?_⟩ | refine And.intro (And.intro rfl rfl) ?_ | refine ⟨True.intro, ?_⟩ | refine ⟨_, ⟨_, rfl, ?_, rfl, rfl, rfl⟩, ?_⟩ | refine ⟨_, rfl, ?_, rfl, ?_⟩ | refine ⟨_, (fun _ => rfl), rfl, ?_⟩ | refine ⟨(fun _ => rfl), ?_⟩ | refine ⟨rfl, ?_⟩ | refine Opt.a ?_ | fail)
    · refine hK _ ?_
      have e : c.drop i = [] := List.drop_eq_nil_of_le (by grind)
      rw [e] at hJ
      rw [← hJ]
      rfl
    · grind
    · have hi2 : i < c.length := by grind
      have hd : c.drop i = c[i] :: c.drop (i + 1) := List.drop_eq_getElem_cons hi2
      rw [hd] at hJ
      refine ⟨c[i], rfl, ?_⟩
      have hb0 : firstBad (c[i] :: c.drop (i + 1)) = if checkCmd c[i] = 0 then firstBad (c.drop (i + 1)) else checkCmd c[i] := rfl
      generalize checkCmd c[i] = e at hb0 ⊢
      repeat' (first | exact True.intro | refine ⟨_, LeL.refl _, ?_⟩ | refine ⟨_, _, _, LeL.refl _, ?_⟩ | (refine fun (b : Bool) hb => ?_; cases b <;> (first | exact absurd hb (by decide) | exact Bool.noConfusion (show true = false from hb) | exact Bool.noConfusion (show false = true from hb) | skip)) | (refine fun (hl : _ ≤ MAXL) => ?_) | refine And.intro (a := I64 _) ?_ ?_ | refine And.intro (a := _ ≤ 140737488355328) ?_ ?_ | refine ⟨_, ⟨rfl, rfl⟩, ?_⟩ | refine ⟨_, And.intro (a := I64 _) ?_ ⟨rfl, rfl⟩, ?_⟩ | refine ⟨_, _, ⟨rfl, rfl⟩, ?_⟩ | refine ⟨_, (fun _ => ⟨rfl, rfl⟩), ?_⟩ | refine And.intro (a := chkPend _ _ _ _ _ _) ?_ ?_ | refine And.intro (a := chkPast _ _ _ _ _ _ _ _) ?_ ?_ | refine ⟨⟨rfl, rfl⟩, ?_⟩ | refine And.intro (And.intro rfl rfl) ?_ | refine ⟨True.intro, ?_⟩ | refine ⟨_, ⟨_, rfl, ?_, rfl, rfl, rfl⟩, ?_⟩ | refine ⟨_, rfl, ?_, rfl, ?_⟩ | refine ⟨_, (fun _ => rfl), rfl, ?_⟩ | refine ⟨(fun _ => rfl), ?_⟩ | refine ⟨rfl, ?_⟩ | refine Opt.a ?_ | fail)
      · (first | omega | (unfold I64; omega) | (simp only [List.length_append, List.length_map, List.length_cons, List.length_nil, Nat.mul_one, Int.ofNat_eq_natCast] at *; omega) | (dsimp only at *; omega) | (unfold I64; dsimp only at *; omega) | (unfold I64; grind) | grind)
      · refine ⟨i + 1, (by (refine wk_auto ?_; refine Sel4.mk rfl rfl ?_ ?_ <;> (repeat' (first | exact True.intro | exact rfl | exact Or.inl rfl | exact Or.inr rfl | refine And.intro ?_ ?_ | fail)))), ⟨by omega, ?_⟩, by omega⟩
        rw [← hJ, hb0, if_pos (by grind)]
      · refine hK _ ?_
        have he : ¬ e = 0 := by grind
        rw [← hJ, hb0]
        simp [he]
  · grind
  have hi2 : i < f.length := by grind
  refine ⟨f[i], rfl, ?_⟩
  have hts : f.take (i + 1) = f.take i ++ [f[i]] := List.take_succ_eq_append_getElem hi2
  repeat' (first | exact True.intro | refine ⟨_, LeL.refl _, ?_⟩ | refine ⟨_, _, _, LeL.refl _, ?_⟩ | (refine fun (b : Bool) hb => ?_; cases b <;> (first | exact absurd hb (by decide) | exact Bool.noConfusion (show true = false from hb) | exact Bool.noConfusion (show false = true from hb) | skip)) | (refine fun (hl : _ ≤ MAXL) => ?_) | refine And.intro (a := I64 _) ?_ ?_ | refine And.intro (a := _ ≤ 140737488355328) ?_ ?_ | refine ⟨_, ⟨rfl, rfl⟩, ?_⟩ | refine ⟨_, And.intro (a := I64 _) ?_ ⟨rfl, rfl⟩, ?_⟩ | refine ⟨_, _, ⟨rfl, rfl⟩, ?_⟩ | refine ⟨_, (fun _ => ⟨rfl, rfl⟩), ?_⟩ | refine And.intro (a := chkPend _ _ _ _ _ _) ?_ ?_ | refine And.intro (a := chkPast _ _ _ _ _ _ _ _) ?_ ?_ | refine ⟨⟨rfl, rfl⟩, ?_⟩ | refine And.intro (And.intro rfl rfl) ?_ | refine ⟨True.intro, ?_⟩ | refine ⟨_, ⟨_, rfl, ?_, rfl, rfl, rfl⟩, ?_⟩ | refine ⟨_, rfl, ?_, rfl, ?_⟩ | refine ⟨_, (fun _ => rfl), rfl, ?_⟩ | refine ⟨(fun _ => rfl), ?_⟩ | refine ⟨rfl, ?_⟩ | refine Opt.a ?_ | fail)
  · (first | omega | (unfold I64; omega) | (simp only [List.length_append, List.length_map, List.length_cons, List.length_nil, Nat.mul_one, Int.ofNat_eq_natCast] at *; omega) | (dsimp only at *; omega) | (unfold I64; dsimp only at *; omega) | (unfold I64; grind) | grind)
  · refine ⟨i + 1, (by (refine wk_auto ?_; refine Sel4.mk rfl rfl ?_ ?_ <;> (repeat' (first | exact True.intro | exact rfl | exact Or.inl rfl | exact Or.inr rfl | refine And.intro ?_ ?_ | fail)))), ⟨by omega, ?_⟩, by omega⟩
    rw [hts, List.all_append, hI]
    grind
  · refine hK _ ?_
    have h1 : (f ++ [t]).all isWord = false := by
      rw [List.all_eq_false]
      exact ⟨f[i], List.mem_append_left _ (List.getElem_mem hi2), by grind⟩
    rw [if_pos h1]
end Gv
namespace Gv
variable [Glob] [Laid]
theorem equalP_ca : callable Tryd.prog 52 = true := by kernel_rfl
def equalP_S : Spec := fun args K => ∃ a b : List Port, args = [.sl portV a, .sl portV b] ∧ K (.bool (decide (a = b)))
noncomputable def equalP_lib : List (Nat × Spec) := []
noncomputable def equalP_fns : List (Nat × FnI) := []
noncomputable def equalP_prims : List (Nat × PSpec) := []
theorem equalP_E : EnvOK ⟨Tryd.prog, tys, equalP_lib, equalP_fns, equalP_prims, [(81, [true, true])]⟩ := env_ok mixed0 tys0 .nil .nil .nil (by kernel_rfl)
set_option maxHeartbeats 4000000 in
theorem equalP_ok : Pure Tryd.prog 52 equalP_S := by
  refine pure_by equalP_E 6 (fi := {fn := Tryd.f52, hooks := [], draws := [(6, [0, 0, 3, 7, 0, 0, 48, 112, 255])]}) ⟨Tryd.func52, by kernel_rfl, by kernel_rfl⟩ ?_
  rintro _ K ⟨x, y, rfl, hK⟩
  replace hK : ∀ r, r = .bool (decide (x = y)) → K r := fun r h => h ▸ hK
  repeat' (first | exact True.intro | refine ⟨_, LeL.refl _, ?_⟩ | refine ⟨_, _, _, LeL.refl _, ?_⟩ | (refine fun (b : Bool) hb => ?_; cases b <;> (first | exact absurd hb (by decide) | exact Bool.noConfusion (show true = false from hb) | exact Bool.noConfusion (show false = true from hb) | skip)) | (refine fun (hl : _ ≤ MAXL) => ?_) | refine And.intro (a := I64 _) ?_ ?_ | refine And.intro (a := _ ≤ 140737488355328) ?_ ?_ | refine ⟨_, ⟨rfl, rfl⟩, ?_⟩ | refine ⟨_, And.intro (a := I64 _) ?_ ⟨rfl, rfl⟩, ?_⟩ | refine ⟨_, _, ⟨rfl, rfl⟩, ?_⟩ | refine ⟨_, (fun _ => ⟨rfl, rfl⟩), ?_⟩ | refine And.intro (a := chkPend _ _ _ _ _ _) ?_ ?_ | refine And.intro (a := chkPast _ _ _ _ _ _ _ _) ?_ ?_ | refine ⟨⟨rfl, rfl⟩, ?_⟩ | refine And.intro (And.intro rfl rfl) ?_ | refine ⟨True.intro, ?_⟩ | refine ⟨_, ⟨_, rfl, ?_, rfl, rfl, rfl⟩, ?_⟩ | refine ⟨_, rfl, ?_, rfl, ?_⟩ | refine ⟨_, (fun _ => rfl), rfl, ?_⟩ | refine ⟨(fun _ => rfl), ?_⟩ | refine ⟨rfl, ?_⟩ | refine Opt.a ?_ | fail)
  rotate_left
  · refine hK _ ?_
    congr 1
    grind
  conv => whnf
  refine loop_live [0, 1, 12] (σ := Nat) (fun i => [(13, .int .i64 i)]) (fun _ => []) (fun i => i ≤ x.length ∧ x.take i = y.take i) (fun i => x.length - i) 0 ?_
  conv => whnf
  refine ⟨wk_sel [] rfl rfl trivial (by (repeat' (first | exact True.intro | exact rfl | exact Or.inl rfl | exact Or.inr rfl | refine And.intro ?_ ?_ | fail))), ⟨Nat.zero_le _, rfl⟩, ?_⟩
  intro i ⟨hi, hI⟩
  repeat' (first | exact True.intro | refine ⟨_, LeL.refl _, ?_⟩ | refine ⟨_, _, _, LeL.refl _, ?_⟩ | (refine fun (b : Bool) hb => ?_; cases b <;> (first | exact absurd hb (by decide) | exact Bool.noConfusion (show true = false from hb) | exact Bool.noConfusion (show false = true from hb) | skip)) | (refine fun (hl : _ ≤ MAXL) => ?_) | refine And.intro (a := I64 _) ?_ ?_ | refine And.intro (a := _ ≤ 140737488355328) ?_ ?_ | refine ⟨_, ⟨rfl, rfl⟩, ?_⟩ | refine ⟨_, And.intro (a := I64 _) ?_ ⟨rfl, rfl⟩, ?_⟩ | refine ⟨_, _, ⟨rfl, rfl⟩, ?_⟩ | refine ⟨_, (fun _ => ⟨rfl, rfl⟩), ?_⟩ | refine And.intro (a := chkPend _ _ _ _ _ _) ?_ ?_ | refine And.intro (a := chkPast _ _ _ _ _ _ _ _) ?_ ?_ | refine ⟨⟨rfl, rfl⟩, ?_⟩ | refine And.intro (And.intro rfl rfl) ?_ | refine ⟨True.intro, ?_⟩ | refine ⟨_, ⟨_, rfl, ?_, rfl, rfl, rfl⟩, ?_⟩ | refine ⟨_, rfl, ?_, rfl, ?_⟩ | refine ⟨_, (fun _ => rfl), rfl, ?_⟩ | refine ⟨(fun _ => rfl), ?_⟩ | refine ⟨rfl, ?_⟩ | refine Opt.a ?_ | fail)
  all_goals try ((first | omega | (unfold I64; omega) | (simp only [List.length_append, List.length_map, List.length_cons, List.length_nil, Nat.mul_one, Int.ofNat_eq_natCast] at *; omega) | (dsimp only at *; omega) | (unfold I64; dsimp only at *; omega) | (unfold I64; grind) | grind); done)
  · refine hK _ ?_
    congr 1
    have e : x = y := by
      have h1 : x.take i = x := List.take_of_length_le (by grind)
      have h2 : y.take i = y := List.take_of_length_le (by grind)
      rw [← h1, ← h2, hI]
    simp [e]
  · have g1 : i < x.length := by grind
    have g2 : i < y.length := by grind
    refine ⟨i + 1, ?_, ⟨?_, ?_⟩, ?_⟩
    · refine wk_sel [] rfl rfl trivial ?_
      (repeat' (first | exact True.intro | exact rfl | exact Or.inl rfl | exact Or.inr rfl | refine And.intro ?_ ?_ | fail))
    · grind
    · rw [List.take_succ_eq_append_getElem g1, List.take_succ_eq_append_getElem g2, hI]
      have e : x[i] = y[i] := by
        have h1 : x[i].node = y[i].node ∧ x[i].out = y[i].out := by grind
        rcases hx : x[i] with ⟨a, b⟩
        rcases hy : y[i] with ⟨a', b'⟩
        rw [hx, hy] at h1
        simp only at h1
        rw [h1.1, h1.2]
      rw [e]
    · grind
  · refine hK _ ?_
    congr 1
    grind
end Gv
namespace Gv
variable [Glob] [Laid]
theorem same1_ca : callable Tryd.prog 86 = true := by kernel_rfl
def same1_S : Spec := fun args K => ∃ a b : Gp.Node, args = [nodeV a, nodeV b] ∧ K (.bool (decide (a = b)))
noncomputable def same1_lib : List (Nat × Spec) := [(52, equalP_S)]
noncomputable def same1_fns : List (Nat × FnI) := []
noncomputable def same1_prims : List (Nat × PSpec) := []
theorem same1_E : EnvOK ⟨Tryd.prog, tys, same1_lib, same1_fns, same1_prims, [(64, [true, false, true])]⟩ := env_ok mixed0 tys0 (.cons equalP_ca equalP_ok .nil) .nil .nil (by kernel_rfl)
set_option maxHeartbeats 4000000 in
theorem same1_ok : Pure Tryd.prog 86 same1_S := by
  refine pure_by same1_E 6 (fi := {fn := Tryd.f86, hooks := [], draws := []}) ⟨Tryd.func86, by kernel_rfl, by kernel_rfl⟩ ?_
  rintro _ K ⟨⟨k, f, ⟨ck, cw, cn⟩, h, w, ins⟩, ⟨k', f', ⟨ck', cw', cn'⟩, h', w', ins'⟩, rfl, hK⟩
  replace hK : ∀ r, r = .bool (decide ((⟨k, f, ⟨ck, cw, cn⟩, h, w, ins⟩ : Gp.Node) = ⟨k', f', ⟨ck', cw', cn'⟩, h', w', ins'⟩)) → K r := fun r h => h ▸ hK
  repeat' (first | exact True.intro | refine ⟨_, LeL.refl _, ?_⟩ | refine ⟨_, _, _, LeL.refl _, ?_⟩ | (refine fun (b : Bool) hb => ?_; cases b <;> (first | exact absurd hb (by decide) | exact Bool.noConfusion (show true = false from hb) | exact Bool.noConfusion (show false = true from hb) | skip)) | (refine fun (hl : _ ≤ MAXL) => ?_) | refine And.intro (a := I64 _) ?_ ?_ | refine And.intro (a := _ ≤ 140737488355328) ?_ ?_ | refine ⟨_, ⟨rfl, rfl⟩, ?_⟩ | refine ⟨_, And.intro (a := I64 _) ?_ ⟨rfl, rfl⟩, ?_⟩ | refine ⟨_, _, ⟨rfl, rfl⟩, ?_⟩ | refine ⟨_, (fun _ => ⟨rfl, rfl⟩), ?_⟩ | refine And.intro (a := chkPend _ _ _ _ _ _) ?_ ?_ | refine And.intro (a := chkPast _ _ _ _ _ _ _ _) ?_ ?_ | refine ⟨⟨rfl, rfl⟩, ?_⟩ | refine And.intro (And.intro rfl rfl) ?_ | refine ⟨True.intro, ?_⟩ | refine ⟨_, ⟨_, rfl, ?_, rfl, rfl, rfl⟩, ?_⟩ | refine ⟨_, rfl, ?_, rfl, ?_⟩ | refine ⟨_, (fun _ => rfl), rfl, ?_⟩ | refine ⟨(fun _ => rfl), ?_⟩ | refine ⟨rfl, ?_⟩ | refine Opt.a ?_ | refine ⟨_, _, rfl, ?_⟩ | fail)
  all_goals refine hK _ ?_
  all_goals congr 1
  all_goals grind
end Gv
namespace Gv
variable [Glob] [Laid]
theorem same_ca : callable Tryd.prog 50 = true := by kernel_rfl
def same_S : Spec := fun args K => ∃ a b : List Gp.Node, args = [.agg [.sl nodeV a], .agg [.sl nodeV b]] ∧ K (.bool (decide (a = b)))
noncomputable def same_lib : List (Nat × Spec) := [(86, same1_S)]
noncomputable def same_fns : List (Nat × FnI) := [(85, {fn := Tryd.f85, hooks := [], draws := []})]
noncomputable def same_prims : List (Nat × PSpec) := []
theorem same_E : EnvOK ⟨Tryd.prog, tys, same_lib, same_fns, same_prims, []⟩ := env_ok mixed0 tys0 (.cons same1_ca same1_ok .nil) (.cons (by kernel_rfl) ⟨Tryd.func85, by kernel_rfl, by kernel_rfl⟩ .nil) .nil rfl
set_option maxHeartbeats 4000000 in
theorem same_ok : Pure Tryd.prog 50 same_S := by
  refine pure_by same_E 6 (fi := {fn := Tryd.f50, hooks := [], draws := []}) ⟨Tryd.func50, by kernel_rfl, by kernel_rfl⟩ ?_
  rintro _ K ⟨x, y, rfl, hK⟩
  replace hK : ∀ r, r = .bool (decide (x = y)) → K r := fun r h => h ▸ hK
  repeat' (first | exact True.intro | refine ⟨_, LeL.refl _, ?_⟩ | refine ⟨_, _, _, LeL.refl _, ?_⟩ | (refine fun (b : Bool) hb => ?_; cases b <;> (first | exact absurd hb (by decide) | exact Bool.noConfusion (show true = false from hb) | exact Bool.noConfusion (show false = true from hb) | skip)) | (refine fun (hl : _ ≤ MAXL) => ?_) | refine And.intro (a := I64 _) ?_ ?_ | refine And.intro (a := _ ≤ 140737488355328) ?_ ?_ | refine ⟨_, ⟨rfl, rfl⟩, ?_⟩ | refine ⟨_, And.intro (a := I64 _) ?_ ⟨rfl, rfl⟩, ?_⟩ | refine ⟨_, _, ⟨rfl, rfl⟩, ?_⟩ | refine ⟨_, (fun _ => ⟨rfl, rfl⟩), ?_⟩ | refine And.intro (a := chkPend _ _ _ _ _ _) ?_ ?_ | refine And.intro (a := chkPast _ _ _ _ _ _ _ _) ?_ ?_ | refine ⟨⟨rfl, rfl⟩, ?_⟩ | refine And.intro (And.intro rfl rfl) ?_ | refine ⟨True.intro, ?_⟩ | refine ⟨_, ⟨_, rfl, ?_, rfl, rfl, rfl⟩, ?_⟩ | refine ⟨_, rfl, ?_, rfl, ?_⟩ | refine ⟨_, (fun _ => rfl), rfl, ?_⟩ | refine ⟨(fun _ => rfl), ?_⟩ | refine ⟨rfl, ?_⟩ | refine Opt.a ?_ | fail)
  rotate_left
  · refine hK _ ?_
    congr 1
    grind
  conv => whnf
  refine loop_live [1, 2, 15, 16] (σ := Nat) (fun i => [(17, .int .i64 i)]) (fun _ => [.box [.sl nodeV x], .box [.sl nodeV y]]) (fun i => i ≤ x.length ∧ x.take i = y.take i) (fun i => x.length - i) 0 ?_
  conv => whnf
  refine ⟨(by (refine wk_sel [some 0, some 1] rfl rfl ?_ ?_ <;> (repeat' (first | exact True.intro | exact rfl | exact Or.inl rfl | exact Or.inr rfl | refine And.intro ?_ ?_ | fail)))), ⟨Nat.zero_le _, rfl⟩, ?_⟩
  intro i ⟨hi, hI⟩
  repeat' (first | exact True.intro | refine ⟨_, LeL.refl _, ?_⟩ | refine ⟨_, _, _, LeL.refl _, ?_⟩ | (refine fun (b : Bool) hb => ?_; cases b <;> (first | exact absurd hb (by decide) | exact Bool.noConfusion (show true = false from hb) | exact Bool.noConfusion (show false = true from hb) | skip)) | (refine fun (hl : _ ≤ MAXL) => ?_) | refine And.intro (a := I64 _) ?_ ?_ | refine And.intro (a := _ ≤ 140737488355328) ?_ ?_ | refine ⟨_, ⟨rfl, rfl⟩, ?_⟩ | refine ⟨_, And.intro (a := I64 _) ?_ ⟨rfl, rfl⟩, ?_⟩ | refine ⟨_, _, ⟨rfl, rfl⟩, ?_⟩ | refine ⟨_, (fun _ => ⟨rfl, rfl⟩), ?_⟩ | refine And.intro (a := chkPend _ _ _ _ _ _) ?_ ?_ | refine And.intro (a := chkPast _ _ _ _ _ _ _ _) ?_ ?_ | refine ⟨⟨rfl, rfl⟩, ?_⟩ | refine And.intro (And.intro rfl rfl) ?_ | refine ⟨True.intro, ?_⟩ | refine ⟨_, ⟨_, rfl, ?_, rfl, rfl, rfl⟩, ?_⟩ | refine ⟨_, rfl, ?_, rfl, ?_⟩ | refine ⟨_, (fun _ => rfl), rfl, ?_⟩ | refine ⟨(fun _ => rfl), ?_⟩ | refine ⟨rfl, ?_⟩ | refine Opt.a ?_ | fail)
  all_goals try ((first | omega | (unfold I64; omega) | (simp only [List.length_append, List.length_map, List.length_cons, List.length_nil, Nat.mul_one, Int.ofNat_eq_natCast] at *; omega) | (dsimp only at *; omega) | (unfold I64; dsimp only at *; omega) | (unfold I64; grind) | grind); done)
  · refine hK _ ?_
    congr 1
    have e : x = y := by
      have h1 : x.take i = x := List.take_of_length_le (by grind)
      have h2 : y.take i = y := List.take_of_length_le (by grind)
      rw [← h1, ← h2, hI]
    simp [e]
  have g1 : i < x.length := by grind
  have g2 : i < y.length := by grind
  refine ⟨x[i], y[i], rfl, ?_⟩
  repeat' (first | exact True.intro | refine ⟨_, LeL.refl _, ?_⟩ | refine ⟨_, _, _, LeL.refl _, ?_⟩ | (refine fun (b : Bool) hb => ?_; cases b <;> (first | exact absurd hb (by decide) | exact Bool.noConfusion (show true = false from hb) | exact Bool.noConfusion (show false = true from hb) | skip)) | (refine fun (hl : _ ≤ MAXL) => ?_) | refine And.intro (a := I64 _) ?_ ?_ | refine And.intro (a := _ ≤ 140737488355328) ?_ ?_ | refine ⟨_, ⟨rfl, rfl⟩, ?_⟩ | refine ⟨_, And.intro (a := I64 _) ?_ ⟨rfl, rfl⟩, ?_⟩ | refine ⟨_, _, ⟨rfl, rfl⟩, ?_⟩ | refine ⟨_, (fun _ => ⟨rfl, rfl⟩), ?_⟩ | refine And.intro (a := chkPend _ _ _ _ _ _) ?_ ?_ | refine And.intro (a := chkPast _ _ _ _ _ _ _ _) ?_ ?_ | refine ⟨⟨rfl, rfl⟩, ?_⟩ | refine And.intro (And.intro rfl rfl) ?_ | refine ⟨True.intro, ?_⟩ | refine ⟨_, ⟨_, rfl, ?_, rfl, rfl, rfl⟩, ?_⟩ | refine ⟨_, rfl, ?_, rfl, ?_⟩ | refine ⟨_, (fun _ => rfl), rfl, ?_⟩ | refine ⟨(fun _ => rfl), ?_⟩ | refine ⟨rfl, ?_⟩ | refine Opt.a ?_ | fail)
  all_goals try ((first | omega | (unfold I64; omega) | (simp only [List.length_append, List.length_map, List.length_cons, List.length_nil, Nat.mul_one, Int.ofNat_eq_natCast] at *; omega) | (dsimp only at *; omega) | (unfold I64; dsimp only at *; omega) | (unfold I64; grind) | grind); done)
  · refine ⟨i + 1, ?_, ⟨?_, ?_⟩, ?_⟩
    · exact (by (refine wk_sel [some 0, some 1] rfl rfl ?_ ?_ <;> (repeat' (first | exact True.intro | exact rfl | exact Or.inl rfl | exact Or.inr rfl | refine And.intro ?_ ?_ | fail))))
    · grind
    · rw [List.take_succ_eq_append_getElem g1, List.take_succ_eq_append_getElem g2, hI]
      have e : x[i] = y[i] := by grind
      rw [e]
    · grind
  · refine hK _ ?_
    congr 1
    grind
end Gv
namespace Gv
variable [Glob] [Laid]
def sorterNodes : List Gp.Node := [srcN [97], splitN 2 [⟨0, 0⟩], workN ⟨6, [], 0⟩ [⟨1, 0⟩], workN ⟨6, [], 0⟩ [⟨1, 1⟩], joinN 2 zCmd [⟨2, 0⟩, ⟨3, 0⟩], sinkN [98] [⟨4, 0⟩]]
theorem sorter_ca : callable Tryd.prog 51 = true := by kernel_rfl
def sorter_S : Spec := fun args K => args = [] ∧ K (.agg [.sl nodeV sorterNodes])
noncomputable def sorter_lib : List (Nat × Spec) := []
noncomputable def sorter_fns : List (Nat × FnI) := []
noncomputable def sorter_prims : List (Nat × PSpec) := []
theorem sorter_E : EnvOK ⟨Tryd.prog, tys, sorter_lib, sorter_fns, sorter_prims, []⟩ := env_ok mixed0 tys0 .nil .nil .nil rfl
set_option maxHeartbeats 4000000 in
set_option maxRecDepth 10000 in
theorem sorter_ok : Pure Tryd.prog 51 sorter_S := by
  refine pure_by sorter_E 6 (fi := {fn := Tryd.f51, hooks := [], draws := []}) ⟨Tryd.func51, by kernel_rfl, by kernel_rfl⟩ ?_
  rintro _ K ⟨rfl, hK⟩
  repeat' (first | exact True.intro | refine ⟨_, LeL.refl _, ?_⟩ | refine ⟨_, _, _, LeL.refl _, ?_⟩ | (refine fun (b : Bool) hb => ?_; cases b <;> (first | exact absurd hb (by decide) | exact Bool.noConfusion (show true = false from hb) | exact Bool.noConfusion (show false = true from hb) | skip)) | (refine fun (hl : _ ≤ MAXL) => ?_) | refine And.intro (a := I64 _) ?_ ?_ | refine And.intro (a := _ ≤ 140737488355328) ?_ ?_ | refine ⟨_, ⟨rfl, rfl⟩, ?_⟩ | refine ⟨_, And.intro (a := I64 _) ?_ ⟨rfl, rfl⟩, ?_⟩ | refine ⟨_, _, ⟨rfl, rfl⟩, ?_⟩ | refine ⟨_, (fun _ => ⟨rfl, rfl⟩), ?_⟩ | refine And.intro (a := chkPend _ _ _ _ _ _) ?_ ?_ | refine And.intro (a := chkPast _ _ _ _ _ _ _ _) ?_ ?_ | refine ⟨⟨rfl, rfl⟩, ?_⟩ | refine And.intro (And.intro rfl rfl) ?_ | refine ⟨True.intro, ?_⟩ | refine ⟨_, ⟨_, rfl, ?_, rfl, rfl, rfl⟩, ?_⟩ | refine ⟨_, rfl, ?_, rfl, ?_⟩ | refine ⟨_, (fun _ => rfl), rfl, ?_⟩ | refine ⟨(fun _ => rfl), ?_⟩ | refine ⟨rfl, ?_⟩ | refine Opt.a ?_ | fail)
  refine ⟨Gp.Port, portV, ?_⟩
  repeat' (first | exact True.intro | refine ⟨_, LeL.refl _, ?_⟩ | refine ⟨_, _, _, LeL.refl _, ?_⟩ | (refine fun (b : Bool) hb => ?_; cases b <;> (first | exact absurd hb (by decide) | exact Bool.noConfusion (show true = false from hb) | exact Bool.noConfusion (show false = true from hb) | skip)) | (refine fun (hl : _ ≤ MAXL) => ?_) | refine And.intro (a := I64 _) ?_ ?_ | refine And.intro (a := _ ≤ 140737488355328) ?_ ?_ | refine ⟨_, ⟨rfl, rfl⟩, ?_⟩ | refine ⟨_, And.intro (a := I64 _) ?_ ⟨rfl, rfl⟩, ?_⟩ | refine ⟨_, _, ⟨rfl, rfl⟩, ?_⟩ | refine ⟨_, (fun _ => ⟨rfl, rfl⟩), ?_⟩ | refine And.intro (a := chkPend _ _ _ _ _ _) ?_ ?_ | refine And.intro (a := chkPast _ _ _ _ _ _ _ _) ?_ ?_ | refine ⟨⟨rfl, rfl⟩, ?_⟩ | refine And.intro (And.intro rfl rfl) ?_ | refine ⟨True.intro, ?_⟩ | refine ⟨_, ⟨_, rfl, ?_, rfl, rfl, rfl⟩, ?_⟩ | refine ⟨_, rfl, ?_, rfl, ?_⟩ | refine ⟨_, (fun _ => rfl), rfl, ?_⟩ | refine ⟨(fun _ => rfl), ?_⟩ | refine ⟨rfl, ?_⟩ | refine Opt.a ?_ | fail)
  refine ⟨Gp.Port, portV, [⟨0, 0⟩], LeL.refl _, ?_⟩
  repeat' (first | exact True.intro | refine ⟨_, LeL.refl _, ?_⟩ | refine ⟨_, _, _, LeL.refl _, ?_⟩ | (refine fun (b : Bool) hb => ?_; cases b <;> (first | exact absurd hb (by decide) | exact Bool.noConfusion (show true = false from hb) | exact Bool.noConfusion (show false = true from hb) | skip)) | (refine fun (hl : _ ≤ MAXL) => ?_) | refine And.intro (a := I64 _) ?_ ?_ | refine And.intro (a := _ ≤ 140737488355328) ?_ ?_ | refine ⟨_, ⟨rfl, rfl⟩, ?_⟩ | refine ⟨_, And.intro (a := I64 _) ?_ ⟨rfl, rfl⟩, ?_⟩ | refine ⟨_, _, ⟨rfl, rfl⟩, ?_⟩ | refine ⟨_, (fun _ => ⟨rfl, rfl⟩), ?_⟩ | refine And.intro (a := chkPend _ _ _ _ _ _) ?_ ?_ | refine And.intro (a := chkPast _ _ _ _ _ _ _ _) ?_ ?_ | refine ⟨⟨rfl, rfl⟩, ?_⟩ | refine And.intro (And.intro rfl rfl) ?_ | refine ⟨True.intro, ?_⟩ | refine ⟨_, ⟨_, rfl, ?_, rfl, rfl, rfl⟩, ?_⟩ | refine ⟨_, rfl, ?_, rfl, ?_⟩ | refine ⟨_, (fun _ => rfl), rfl, ?_⟩ | refine ⟨(fun _ => rfl), ?_⟩ | refine ⟨rfl, ?_⟩ | refine Opt.a ?_ | fail)
  refine ⟨Gp.Port, portV, [⟨1, 0⟩], LeL.refl _, ?_⟩
  repeat' (first | exact True.intro | refine ⟨_, LeL.refl _, ?_⟩ | refine ⟨_, _, _, LeL.refl _, ?_⟩ | (refine fun (b : Bool) hb => ?_; cases b <;> (first | exact absurd hb (by decide) | exact Bool.noConfusion (show true = false from hb) | exact Bool.noConfusion (show false = true from hb) | skip)) | (refine fun (hl : _ ≤ MAXL) => ?_) | refine And.intro (a := I64 _) ?_ ?_ | refine And.intro (a := _ ≤ 140737488355328) ?_ ?_ | refine ⟨_, ⟨rfl, rfl⟩, ?_⟩ | refine ⟨_, And.intro (a := I64 _) ?_ ⟨rfl, rfl⟩, ?_⟩ | refine ⟨_, _, ⟨rfl, rfl⟩, ?_⟩ | refine ⟨_, (fun _ => ⟨rfl, rfl⟩), ?_⟩ | refine And.intro (a := chkPend _ _ _ _ _ _) ?_ ?_ | refine And.intro (a := chkPast _ _ _ _ _ _ _ _) ?_ ?_ | refine ⟨⟨rfl, rfl⟩, ?_⟩ | refine And.intro (And.intro rfl rfl) ?_ | refine ⟨True.intro, ?_⟩ | refine ⟨_, ⟨_, rfl, ?_, rfl, rfl, rfl⟩, ?_⟩ | refine ⟨_, rfl, ?_, rfl, ?_⟩ | refine ⟨_, (fun _ => rfl), rfl, ?_⟩ | refine ⟨(fun _ => rfl), ?_⟩ | refine ⟨rfl, ?_⟩ | refine Opt.a ?_ | fail)
  refine ⟨Gp.Port, portV, [⟨1, 1⟩], LeL.refl _, ?_⟩
  repeat' (first | exact True.intro | refine ⟨_, LeL.refl _, ?_⟩ | refine ⟨_, _, _, LeL.refl _, ?_⟩ | (refine fun (b : Bool) hb => ?_; cases b <;> (first | exact absurd hb (by decide) | exact Bool.noConfusion (show true = false from hb) | exact Bool.noConfusion (show false = true from hb) | skip)) | (refine fun (hl : _ ≤ MAXL) => ?_) | refine And.intro (a := I64 _) ?_ ?_ | refine And.intro (a := _ ≤ 140737488355328) ?_ ?_ | refine ⟨_, ⟨rfl, rfl⟩, ?_⟩ | refine ⟨_, And.intro (a := I64 _) ?_ ⟨rfl, rfl⟩, ?_⟩ | refine ⟨_, _, ⟨rfl, rfl⟩, ?_⟩ | refine ⟨_, (fun _ => ⟨rfl, rfl⟩), ?_⟩ | refine And.intro (a := chkPend _ _ _ _ _ _) ?_ ?_ | refine And.intro (a := chkPast _ _ _ _ _ _ _ _) ?_ ?_ | refine ⟨⟨rfl, rfl⟩, ?_⟩ | refine And.intro (And.intro rfl rfl) ?_ | refine ⟨True.intro, ?_⟩ | refine ⟨_, ⟨_, rfl, ?_, rfl, rfl, rfl⟩, ?_⟩ | refine ⟨_, rfl, ?_, rfl, ?_⟩ | refine ⟨_, (fun _ => rfl), rfl, ?_⟩ | refine ⟨(fun _ => rfl), ?_⟩ | refine ⟨rfl, ?_⟩ | refine Opt.a ?_ | fail)
  refine ⟨Gp.Port, portV, [⟨2, 0⟩, ⟨3, 0⟩], LeL.refl _, ?_⟩
  repeat' (first | exact True.intro | refine ⟨_, LeL.refl _, ?_⟩ | refine ⟨_, _, _, LeL.refl _, ?_⟩ | (refine fun (b : Bool) hb => ?_; cases b <;> (first | exact absurd hb (by decide) | exact Bool.noConfusion (show true = false from hb) | exact Bool.noConfusion (show false = true from hb) | skip)) | (refine fun (hl : _ ≤ MAXL) => ?_) | refine And.intro (a := I64 _) ?_ ?_ | refine And.intro (a := _ ≤ 140737488355328) ?_ ?_ | refine ⟨_, ⟨rfl, rfl⟩, ?_⟩ | refine ⟨_, And.intro (a := I64 _) ?_ ⟨rfl, rfl⟩, ?_⟩ | refine ⟨_, _, ⟨rfl, rfl⟩, ?_⟩ | refine ⟨_, (fun _ => ⟨rfl, rfl⟩), ?_⟩ | refine And.intro (a := chkPend _ _ _ _ _ _) ?_ ?_ | refine And.intro (a := chkPast _ _ _ _ _ _ _ _) ?_ ?_ | refine ⟨⟨rfl, rfl⟩, ?_⟩ | refine And.intro (And.intro rfl rfl) ?_ | refine ⟨True.intro, ?_⟩ | refine ⟨_, ⟨_, rfl, ?_, rfl, rfl, rfl⟩, ?_⟩ | refine ⟨_, rfl, ?_, rfl, ?_⟩ | refine ⟨_, (fun _ => rfl), rfl, ?_⟩ | refine ⟨(fun _ => rfl), ?_⟩ | refine ⟨rfl, ?_⟩ | refine Opt.a ?_ | fail)
  refine ⟨Gp.Port, portV, [⟨4, 0⟩], LeL.refl _, ?_⟩
  repeat' (first | exact True.intro | refine ⟨_, LeL.refl _, ?_⟩ | refine ⟨_, _, _, LeL.refl _, ?_⟩ | (refine fun (b : Bool) hb => ?_; cases b <;> (first | exact absurd hb (by decide) | exact Bool.noConfusion (show true = false from hb) | exact Bool.noConfusion (show false = true from hb) | skip)) | (refine fun (hl : _ ≤ MAXL) => ?_) | refine And.intro (a := I64 _) ?_ ?_ | refine And.intro (a := _ ≤ 140737488355328) ?_ ?_ | refine ⟨_, ⟨rfl, rfl⟩, ?_⟩ | refine ⟨_, And.intro (a := I64 _) ?_ ⟨rfl, rfl⟩, ?_⟩ | refine ⟨_, _, ⟨rfl, rfl⟩, ?_⟩ | refine ⟨_, (fun _ => ⟨rfl, rfl⟩), ?_⟩ | refine And.intro (a := chkPend _ _ _ _ _ _) ?_ ?_ | refine And.intro (a := chkPast _ _ _ _ _ _ _ _) ?_ ?_ | refine ⟨⟨rfl, rfl⟩, ?_⟩ | refine And.intro (And.intro rfl rfl) ?_ | refine ⟨True.intro, ?_⟩ | refine ⟨_, ⟨_, rfl, ?_, rfl, rfl, rfl⟩, ?_⟩ | refine ⟨_, rfl, ?_, rfl, ?_⟩ | refine ⟨_, (fun _ => rfl), rfl, ?_⟩ | refine ⟨(fun _ => rfl), ?_⟩ | refine ⟨rfl, ?_⟩ | refine Opt.a ?_ | fail)
  refine ⟨Gp.Node, nodeV, sorterNodes, LeL.refl _, ?_⟩
  exact hK
end Gv
namespace Gv
variable [Glob] [Laid]
theorem plan_sorter : plan ⟨[[97]], [⟨6, [], 0⟩], [98]⟩ 2 = (sorterNodes, 0) := by decide +kernel
theorem planned_ca : callable Tryd.prog 11 = true := by kernel_rfl
def planned_S : Spec := fun args K => args = [] ∧ K (.bool true)
noncomputable def planned_lib : List (Nat × Spec) := [(50, same_S), (86, same1_S), (9, plan_S), (51, sorter_S)]
noncomputable def planned_fns : List (Nat × FnI) := []
noncomputable def planned_prims : List (Nat × PSpec) := []
theorem planned_E : EnvOK ⟨Tryd.prog, tys, planned_lib, planned_fns, planned_prims, []⟩ := env_ok mixed0 tys0 (.cons same_ca same_ok (.cons same1_ca same1_ok (.cons plan_ca plan_ok (.cons sorter_ca sorter_ok .nil)))) .nil .nil rfl
set_option maxHeartbeats 4000000 in
theorem planned_ok : Pure Tryd.prog 11 planned_S := by
  refine pure_by planned_E 6 (fi := {fn := Tryd.f11, hooks := [], draws := [(2, [0, 1, 3, 7, 7, 31, 63, 127])]}) ⟨Tryd.func11, by kernel_rfl, by kernel_rfl⟩ ?_
  rintro _ K ⟨rfl, hK⟩
  have e1 := plan_sorter
  obtain ⟨pn, hpn⟩ : ∃ pn, plan ⟨[[97]], [⟨6, [], 0⟩], [98]⟩ 2 = pn := ⟨_, rfl⟩
  rw [hpn] at e1
  subst e1
  repeat' (first | exact True.intro | refine ⟨_, LeL.refl _, ?_⟩ | refine ⟨_, _, _, LeL.refl _, ?_⟩ | (refine fun (b : Bool) hb => ?_; cases b <;> (first | exact absurd hb (by decide) | exact Bool.noConfusion (show true = false from hb) | exact Bool.noConfusion (show false = true from hb) | skip)) | (refine fun (hl : _ ≤ MAXL) => ?_) | refine And.intro (a := I64 _) ?_ ?_ | refine And.intro (a := _ ≤ 140737488355328) ?_ ?_ | refine ⟨_, ⟨rfl, rfl⟩, ?_⟩ | refine ⟨_, And.intro (a := I64 _) ?_ ⟨rfl, rfl⟩, ?_⟩ | refine ⟨_, _, ⟨rfl, rfl⟩, ?_⟩ | refine ⟨_, (fun _ => ⟨rfl, rfl⟩), ?_⟩ | refine And.intro (a := chkPend _ _ _ _ _ _) ?_ ?_ | refine And.intro (a := chkPast _ _ _ _ _ _ _ _) ?_ ?_ | refine ⟨⟨rfl, rfl⟩, ?_⟩ | refine And.intro (And.intro rfl rfl) ?_ | refine ⟨True.intro, ?_⟩ | refine ⟨_, ⟨_, rfl, ?_, rfl, rfl, rfl⟩, ?_⟩ | refine ⟨_, rfl, ?_, rfl, ?_⟩ | refine ⟨_, (fun _ => rfl), rfl, ?_⟩ | refine ⟨(fun _ => rfl), ?_⟩ | refine ⟨rfl, ?_⟩ | refine Opt.a ?_ | fail)
  refine ⟨_, strV, [[97]], LeL.refl _, ?_⟩
  refine ⟨_, cmdV, [⟨6, [], 0⟩], LeL.refl _, ?_⟩
  refine ⟨[[97]], [⟨6, [], 0⟩], [98], 2, rfl, ?_⟩
  rw [hpn]
  repeat' (first | exact True.intro | refine ⟨_, LeL.refl _, ?_⟩ | refine ⟨_, _, _, LeL.refl _, ?_⟩ | (refine fun (b : Bool) hb => ?_; cases b <;> (first | exact absurd hb (by decide) | exact Bool.noConfusion (show true = false from hb) | exact Bool.noConfusion (show false = true from hb) | skip)) | (refine fun (hl : _ ≤ MAXL) => ?_) | refine And.intro (a := I64 _) ?_ ?_ | refine And.intro (a := _ ≤ 140737488355328) ?_ ?_ | refine ⟨_, ⟨rfl, rfl⟩, ?_⟩ | refine ⟨_, And.intro (a := I64 _) ?_ ⟨rfl, rfl⟩, ?_⟩ | refine ⟨_, _, ⟨rfl, rfl⟩, ?_⟩ | refine ⟨_, (fun _ => ⟨rfl, rfl⟩), ?_⟩ | refine And.intro (a := chkPend _ _ _ _ _ _) ?_ ?_ | refine And.intro (a := chkPast _ _ _ _ _ _ _ _) ?_ ?_ | refine ⟨⟨rfl, rfl⟩, ?_⟩ | refine And.intro (And.intro rfl rfl) ?_ | refine ⟨True.intro, ?_⟩ | refine ⟨_, ⟨_, rfl, ?_, rfl, rfl, rfl⟩, ?_⟩ | refine ⟨_, rfl, ?_, rfl, ?_⟩ | refine ⟨_, (fun _ => rfl), rfl, ?_⟩ | refine ⟨(fun _ => rfl), ?_⟩ | refine ⟨rfl, ?_⟩ | refine Opt.a ?_ | fail)
  refine ⟨_, ⟨rfl, rfl, rfl⟩, ?_⟩
  repeat' (first | exact True.intro | refine ⟨_, LeL.refl _, ?_⟩ | refine ⟨_, _, _, LeL.refl _, ?_⟩ | (refine fun (b : Bool) hb => ?_; cases b <;> (first | exact absurd hb (by decide) | exact Bool.noConfusion (show true = false from hb) | exact Bool.noConfusion (show false = true from hb) | skip)) | (refine fun (hl : _ ≤ MAXL) => ?_) | refine And.intro (a := I64 _) ?_ ?_ | refine And.intro (a := _ ≤ 140737488355328) ?_ ?_ | refine ⟨_, ⟨rfl, rfl⟩, ?_⟩ | refine ⟨_, And.intro (a := I64 _) ?_ ⟨rfl, rfl⟩, ?_⟩ | refine ⟨_, _, ⟨rfl, rfl⟩, ?_⟩ | refine ⟨_, (fun _ => ⟨rfl, rfl⟩), ?_⟩ | refine And.intro (a := chkPend _ _ _ _ _ _) ?_ ?_ | refine And.intro (a := chkPast _ _ _ _ _ _ _ _) ?_ ?_ | refine ⟨⟨rfl, rfl⟩, ?_⟩ | refine And.intro (And.intro rfl rfl) ?_ | refine ⟨True.intro, ?_⟩ | refine ⟨_, ⟨_, rfl, ?_, rfl, rfl, rfl⟩, ?_⟩ | refine ⟨_, rfl, ?_, rfl, ?_⟩ | refine ⟨_, (fun _ => rfl), rfl, ?_⟩ | refine ⟨(fun _ => rfl), ?_⟩ | refine ⟨rfl, ?_⟩ | refine Opt.a ?_ | fail)
  refine ⟨_, ⟨_, _, rfl, rfl, rfl⟩, ?_⟩
  repeat' (first | exact True.intro | refine ⟨_, LeL.refl _, ?_⟩ | refine ⟨_, _, _, LeL.refl _, ?_⟩ | (refine fun (b : Bool) hb => ?_; cases b <;> (first | exact absurd hb (by decide) | exact Bool.noConfusion (show true = false from hb) | exact Bool.noConfusion (show false = true from hb) | skip)) | (refine fun (hl : _ ≤ MAXL) => ?_) | refine And.intro (a := I64 _) ?_ ?_ | refine And.intro (a := _ ≤ 140737488355328) ?_ ?_ | refine ⟨_, ⟨rfl, rfl⟩, ?_⟩ | refine ⟨_, And.intro (a := I64 _) ?_ ⟨rfl, rfl⟩, ?_⟩ | refine ⟨_, _, ⟨rfl, rfl⟩, ?_⟩ | refine ⟨_, (fun _ => ⟨rfl, rfl⟩), ?_⟩ | refine And.intro (a := chkPend _ _ _ _ _ _) ?_ ?_ | refine And.intro (a := chkPast _ _ _ _ _ _ _ _) ?_ ?_ | refine ⟨⟨rfl, rfl⟩, ?_⟩ | refine And.intro (And.intro rfl rfl) ?_ | refine ⟨True.intro, ?_⟩ | refine ⟨_, ⟨_, rfl, ?_, rfl, rfl, rfl⟩, ?_⟩ | refine ⟨_, rfl, ?_, rfl, ?_⟩ | refine ⟨_, (fun _ => rfl), rfl, ?_⟩ | refine ⟨(fun _ => rfl), ?_⟩ | refine ⟨rfl, ?_⟩ | refine Opt.a ?_ | fail)
  have e2 : V.bool (decide ((sorterNodes, (0 : Int)).1 = sorterNodes)) = .bool true := by simp
  exact e2 ▸ hK
end Gv
namespace Gv
variable [Glob] [Laid]
theorem containsI_ca : callable Tryd.prog 87 = true := by kernel_rfl
def containsI_S : Spec := fun args K => ∃ (l : List Int) (c : Int), args = [.sl intV l, .int .i64 c] ∧ K (.bool (decide (c ∈ l)))
noncomputable def containsI_lib : List (Nat × Spec) := []
noncomputable def containsI_fns : List (Nat × FnI) := [(117, {fn := Tryd.f117, hooks := [], draws := []})]
noncomputable def containsI_prims : List (Nat × PSpec) := []
theorem containsI_E : EnvOK ⟨Tryd.prog, tys, containsI_lib, containsI_fns, containsI_prims, []⟩ := env_ok mixed0 tys0 .nil (.cons (by kernel_rfl) ⟨Tryd.func117, by kernel_rfl, by kernel_rfl⟩ .nil) .nil rfl
set_option maxHeartbeats 4000000 in
theorem containsI_ok : Pure Tryd.prog 87 containsI_S := by
  refine pure_by containsI_E 6 (fi := {fn := Tryd.f87, hooks := [], draws := []}) ⟨Tryd.func87, by kernel_rfl, by kernel_rfl⟩ ?_
  rintro _ K ⟨l, c, rfl, hK⟩
  replace hK : ∀ r, r = .bool (decide (c ∈ l)) → K r := fun r h => h ▸ hK
  refine fun (hl : _ ≤ MAXL) => ?_
  conv => whnf
  refine loop_live [0, 1, 7] (σ := Nat) (fun i => [(8, .int .i64 i)]) (fun i => []) (fun i => i ≤ l.length ∧ c ∉ l.take i) (fun i => l.length - i) 0 ?_
  conv => whnf
  refine ⟨(by (refine wk_auto ?_; refine Sel4.mk rfl rfl ?_ ?_ <;> (repeat' (first | exact True.intro | exact rfl | exact Or.inl rfl | exact Or.inr rfl | refine And.intro ?_ ?_ | fail)))), ⟨Nat.zero_le _, by simp⟩, fun i hi => ?_⟩
  obtain ⟨hi, hc⟩ := hi
  repeat' (first | exact True.intro | refine ⟨_, LeL.refl _, ?_⟩ | refine ⟨_, _, _, LeL.refl _, ?_⟩ | (refine fun (b : Bool) hb => ?_; cases b <;> (first | exact absurd hb (by decide) | exact Bool.noConfusion (show true = false from hb) | exact Bool.noConfusion (show false = true from hb) | skip)) | (refine fun (hl : _ ≤ MAXL) => ?_) | refine And.intro (a := I64 _) ?_ ?_ | refine And.intro (a := _ ≤ 140737488355328) ?_ ?_ | refine ⟨_, ⟨rfl, rfl⟩, ?_⟩ | refine ⟨_, And.intro (a := I64 _) ?_ ⟨rfl, rfl⟩, ?_⟩ | refine ⟨_, _, ⟨rfl, rfl⟩, ?_⟩ | refine ⟨_, (fun _ => ⟨rfl, rfl⟩), ?_⟩ | refine And.intro (a := chkPend _ _ _ _ _ _) ?_ ?_ | refine And.intro (a := chkPast _ _ _ _ _ _ _ _) ?_ ?_ | refine ⟨⟨rfl, rfl⟩, ?_⟩ | refine And.intro (And.intro rfl rfl) ?_ | refine ⟨True.intro, ?_⟩ | refine ⟨_, ⟨_, rfl, ?_, rfl, rfl, rfl⟩, ?_⟩ | refine ⟨_, rfl, ?_, rfl, ?_⟩ | refine ⟨_, (fun _ => rfl), rfl, ?_⟩ | refine ⟨(fun _ => rfl), ?_⟩ | refine ⟨rfl, ?_⟩ | refine Opt.a ?_ | fail)
  · refine hK _ ?_
    have e : l.take i = l := List.take_of_length_le (by grind)
    rw [e] at hc
    simp [hc]
  · grind
  · (first | omega | (unfold I64; omega) | (simp only [List.length_append, List.length_map, List.length_cons, List.length_nil, Nat.mul_one, Int.ofNat_eq_natCast] at *; omega) | (dsimp only at *; omega) | (unfold I64; dsimp only at *; omega) | (unfold I64; grind) | grind)
  · have hi2 : i < l.length := by grind
    refine ⟨i + 1, (by (refine wk_auto ?_; refine Sel4.mk rfl rfl ?_ ?_ <;> (repeat' (first | exact True.intro | exact rfl | exact Or.inl rfl | exact Or.inr rfl | refine And.intro ?_ ?_ | fail)))), ⟨by grind, ?_⟩, by grind⟩
    rw [List.take_succ_eq_append_getElem hi2]
    simp only [List.mem_append, List.mem_singleton, not_or]
    refine ⟨hc, fun e => ?_⟩
    subst e
    simp at *
  · have hi2 : i < l.length := by grind
    refine hK _ ?_
    have e : c = l[i] := by grind
    have h1 : decide (c ∈ l) = true := by
      rw [e]
      simp
    have h2 : decide ((0 : Int) ≤ (i : Int)) = true := by simp
    rw [h1, h2]
end Gv
namespace Gv
variable [Glob] [Laid]
theorem isEachR_ca : callable Tryd.prog 55 = true := by kernel_rfl
def isEachR_S : Spec := fun args K => ∃ (c : Cmd), args = [cmdV c] ∧ K (.bool (Gp.each c))
noncomputable def isEachR_lib : List (Nat × Spec) := [(87, containsI_S)]
noncomputable def isEachR_fns : List (Nat × FnI) := []
noncomputable def isEachR_prims : List (Nat × PSpec) := []
theorem isEachR_E : EnvOK ⟨Tryd.prog, tys, isEachR_lib, isEachR_fns, isEachR_prims, []⟩ := env_ok mixed0 tys0 (.cons containsI_ca containsI_ok .nil) .nil .nil rfl
set_option maxHeartbeats 4000000 in
theorem isEachR_ok : Pure Tryd.prog 55 isEachR_S := by
  refine pure_by isEachR_E 6 (fi := {fn := Tryd.f55, hooks := [], draws := []}) ⟨Tryd.func55, by kernel_rfl, by kernel_rfl⟩ ?_
  rintro _ K ⟨c, rfl, hK⟩
  replace hK : ∀ r, r = .bool (Gp.each c) → K r := fun r h => h ▸ hK
  repeat' (first | exact True.intro | refine ⟨_, LeL.refl _, ?_⟩ | refine ⟨_, _, _, LeL.refl _, ?_⟩ | (refine fun (b : Bool) hb => ?_; cases b <;> (first | exact absurd hb (by decide) | exact Bool.noConfusion (show true = false from hb) | exact Bool.noConfusion (show false = true from hb) | skip)) | (refine fun (hl : _ ≤ MAXL) => ?_) | refine And.intro (a := I64 _) ?_ ?_ | refine And.intro (a := _ ≤ 140737488355328) ?_ ?_ | refine ⟨_, ⟨rfl, rfl⟩, ?_⟩ | refine ⟨_, And.intro (a := I64 _) ?_ ⟨rfl, rfl⟩, ?_⟩ | refine ⟨_, _, ⟨rfl, rfl⟩, ?_⟩ | refine ⟨_, (fun _ => ⟨rfl, rfl⟩), ?_⟩ | refine And.intro (a := chkPend _ _ _ _ _ _) ?_ ?_ | refine And.intro (a := chkPast _ _ _ _ _ _ _ _) ?_ ?_ | refine ⟨⟨rfl, rfl⟩, ?_⟩ | refine And.intro (And.intro rfl rfl) ?_ | refine ⟨True.intro, ?_⟩ | refine ⟨_, ⟨_, rfl, ?_, rfl, rfl, rfl⟩, ?_⟩ | refine ⟨_, rfl, ?_, rfl, ?_⟩ | refine ⟨_, (fun _ => rfl), rfl, ?_⟩ | refine ⟨(fun _ => rfl), ?_⟩ | refine ⟨rfl, ?_⟩ | refine Opt.a ?_ | fail)
  refine ⟨Int, intV, [1, 2, 3, 4, 5], LeL.refl _, ?_⟩
  refine ⟨[1, 2, 3, 4, 5], c.kind, rfl, ?_⟩
  refine hK _ ?_
  unfold Gp.each
  congr 1
  simp only [List.mem_cons, List.not_mem_nil, or_false]
  grind
end Gv
namespace Gv
variable [Glob] [Laid]
theorem numK_of {n : Nat} {k : Nat → Prop} (h : k n) : numK n k := by
  unfold numK
  split <;> exact h
theorem pushK_of : ∀ (l : Rows) (n : Nat) (y : Row) (k : Nat → Rows → Prop), k (n + l.length) (l ++ [y]) → pushK n l y k
  | [], n, y, k, h => numK_of h
  | x :: r, n, y, k, h => pushK_of r (n + 1) y _ (by
      show k (n + 1 + r.length) (x :: (r ++ [y]))
      rw [show n + 1 + r.length = n + (x :: r).length by simp; omega]
      exact h)
theorem setK_of : ∀ (l : Rows) (i : Nat) (y : Row) (k : Rows → Prop), i < l.length → k (l.set i y) → setK l i y k
  | x :: r, 0, y, k, _, h => h
  | x :: r, n + 1, y, k, hl, h => setK_of r n y _ (by simpa using hl) h
  | [], n, y, k, hl, h => by simp at hl
theorem mget_mput {α : Type} {z a : α} {ks ks' : List Int} : ∀ ents : List (List Int × α), mget z (mput ents ks a) ks' = if ks = ks' then a else mget z ents ks'
  | [] => by simp [mput, mget]
  | (k, b) :: r => by
    have ih := mget_mput (z := z) (a := a) (ks := ks) (ks' := ks') r
    unfold mput
    by_cases h : k = ks
    · subst h
      simp only [if_true, mget]
      split <;> rfl
    · rw [if_neg h]
      unfold mget
      rw [ih]
      by_cases h2 : k = ks'
      · subst h2
        rw [if_pos rfl, if_neg (fun e => h e.symm), if_pos rfl]
      · rw [if_neg h2, if_neg h2]
def hfA (sel : Nat → Bool) (k : Int) : Int := if k = 6 ∧ sel 1 = true then 2 else if k = 8 ∧ sel 2 = true then 3 else if k = 7 ∧ sel 3 = true then 4 else if k = 9 ∧ sel 4 = true then 4 else if k = 10 ∧ sel 5 = true then 4 else 0
def hfB (sel : Nat → Bool) (b : Int) : Int := if b = 1 ∧ sel 11 = true then 1 else 0
def hfF (c : Cmd) : Int := hfA (fun _ => true) c.kind
def hfG (c : Cmd) : Int := hfB (fun _ => true) (b2i (Gp.each c))
theorem hfI (c : Cmd) : I64 (hfF c + hfG c) := by
  unfold I64 hfF hfG hfA hfB
  grind
theorem hf_eq {c : Cmd} (h : 1 ≤ c.kind ∧ c.kind ≤ 10) : hfF c + hfG c = howFor c := by
  have he : b2i (Gp.each c) = if c.kind ≤ 5 then 1 else 0 := by
    unfold Gp.each
    by_cases h5 : c.kind ≤ 5
    · rw [if_pos h5, decide_eq_true h5, decide_eq_true h.1]
      rfl
    · rw [if_neg h5, decide_eq_false h5, decide_eq_true h.1]
      rfl
  unfold hfF hfG hfA hfB howFor
  rw [he]
  have h2 : c.kind = 1 ∨ c.kind = 2 ∨ c.kind = 3 ∨ c.kind = 4 ∨ c.kind = 5 ∨ c.kind = 6 ∨ c.kind = 7 ∨ c.kind = 8 ∨ c.kind = 9 ∨ c.kind = 10 := by omega
  rcases h2 with h | h | h | h | h | h | h | h | h | h <;> rw [h] <;> rfl
structure HI (c : Cmd) (sel : Nat → Bool) (L : VSlots) (rows : Rows) : Prop where
  b1 : look L 1 = some (.ptr 0 0 0)
  b2 : nth rows 0 = some (.box (cmdV c).cells)
  a : sel 0 = true → ∃ ra ents, look L 3 = some (.map ra) ∧ nth rows ra = some (.mp (α := Int) 3 3 .int intV ents) ∧ (∀ k, mget 0 ents [k] = hfA sel k) ∧ (sel 6 = true → look L 4 = some (.map ra))
  b : sel 10 = true → ∃ rb ents, look L 8 = some (.map rb) ∧ nth rows rb = some (.mp (α := Int) 4 3 .bool intV ents) ∧ (∀ k, mget 0 ents [k] = hfB sel k) ∧ (sel 12 = true → look L 9 = some (.map rb))
  d6 : sel 6 = true → sel 0 = true ∧ sel 1 = true ∧ sel 2 = true ∧ sel 3 = true ∧ sel 4 = true ∧ sel 5 = true
  d12 : sel 12 = true → sel 10 = true ∧ sel 11 = true
  e0 : ∀ j, 1 ≤ j → j ≤ 6 → sel j = true → sel 0 = true
  e10 : ∀ j, 11 ≤ j → j ≤ 12 → sel j = true → sel 10 = true
  t7 : sel 7 = true → look L 5 = some (.ptr 0 0 0)
  t8 : sel 8 = true → look L 6 = some (.int .i64 c.kind)
  t9 : sel 9 = true → look L 7 = some (.int .i64 (hfF c))
  t13 : sel 13 = true → look L 10 = some (cmdV c)
  t14 : sel 14 = true → look L 11 = some (.bool (Gp.each c))
  t15 : sel 15 = true → look L 12 = some (.int .i64 (hfG c))
  t16 : sel 16 = true → look L 13 = some (.int .i64 (hfF c + hfG c))
  t17 : sel 17 = true → look L 2 = some (.int .i64 (hfF c + hfG c))
theorem nth_set_self {rows : Rows} {i : Nat} {x y : Row} (h : nth rows i = some x) : i < rows.length ∧ nth (rows.set i y) i = some y := by
  rw [nth_eq] at h
  have hl := (List.getElem?_eq_some_iff.1 h).1
  exact ⟨hl, by rw [nth_eq]; simp [hl]⟩
theorem nth_set_other {rows : Rows} {i j : Nat} {y x : Row} (h : nth rows j = some x) (hn : i ≠ j) : nth (rows.set i y) j = some x := by
  rw [nth_eq] at h ⊢
  rw [List.getElem?_set_ne hn]
  exact h
theorem nth_add {rows : Rows} {j : Nat} {y x : Row} (h : nth rows j = some x) : nth (rows ++ [y]) j = some x := by
  rw [nth_eq] at h ⊢
  rw [List.getElem?_append_left (List.getElem?_eq_some_iff.1 h).1]
  exact h
theorem nth_new {rows : Rows} {y : Row} : nth (rows ++ [y]) (0 + rows.length) = some y := by
  rw [nth_eq]
  simp
theorem evO_of {L : VSlots} {t : Nat} {v : V} {k : V → Prop} (h : look L t = some v) (hk : k v) : evO L (.tmp t) k := by
  show (match look L t with | some v => k v | none => False)
  rw [h]
  exact hk
/-- A new map. -/
theorem mk_of {rows : Rows} {y : Row} {k : Nat → Rows → Prop} (h : k (0 + rows.length) (rows ++ [y])) : pushK 0 rows y k := pushK_of rows 0 y k h
theorem hi_a {c : Cmd} {sel : Nat → Bool} {L : VSlots} {rows : Rows} {i : Nat} {ra : Nat} {ents : List (List Int × Int)} {k v : Int} (I : HI c sel L rows) (hs : sel i = false) (s0 : sel 0 = true) (hi : i = 1 ∧ k = 6 ∧ v = 2 ∨ i = 2 ∧ k = 8 ∧ v = 3 ∨ i = 3 ∧ k = 7 ∧ v = 4 ∨ i = 4 ∧ k = 9 ∧ v = 4 ∨ i = 5 ∧ k = 10 ∧ v = 4) (h1 : look L 3 = some (.map ra)) (h2 : nth rows ra = some (.mp (α := Int) 3 3 .int intV ents)) (h3 : ∀ k, mget 0 ents [k] = hfA sel k) (h4 : sel 6 = true → look L 4 = some (.map ra)) : HI c (setF sel i) L (rows.set ra (.mp (α := Int) 3 3 .int intV (mput ents [k] v))) := by
  have h0 : ra ≠ 0 := fun e => by subst e; rw [I.b2] at h2; cases h2
  have hs2 : ∀ j, j ≠ i → setF sel i j = sel j := fun j hj => by
    unfold setF
    have : Nat.beq j i = false := by
      cases hb : Nat.beq j i with
      | false => rfl
      | true => exact absurd (Nat.eq_of_beq_eq_true hb) hj
    rw [this]
    rfl
  have hi5 : 1 ≤ i ∧ i ≤ 5 := by omega
  refine ⟨I.b1, nth_set_other I.b2 h0, fun _ => ⟨ra, _, h1, (nth_set_self h2).2, fun k' => ?_, fun h => h4 (by rwa [hs2 6 (by omega)] at h)⟩, fun h => ?_, fun h => ?_, fun h => ?_, fun j j1 j2 h => ?_, fun j j1 j2 h => ?_, fun h => I.t7 ?_, fun h => I.t8 ?_, fun h => I.t9 ?_, fun h => I.t13 ?_, fun h => I.t14 ?_, fun h => I.t15 ?_, fun h => I.t16 ?_, fun h => I.t17 ?_⟩
  · rw [mget_mput, h3]
    have e : ([k] = [k']) = (k = k') := by simp
    simp only [e]
    unfold hfA
    rcases hi with ⟨rfl, rfl, rfl⟩ | ⟨rfl, rfl, rfl⟩ | ⟨rfl, rfl, rfl⟩ | ⟨rfl, rfl, rfl⟩ | ⟨rfl, rfl, rfl⟩
    · rw [setF_eq, hs2 2 (by decide), hs2 3 (by decide), hs2 4 (by decide), hs2 5 (by decide)]; grind
    · rw [setF_eq, hs2 1 (by decide), hs2 3 (by decide), hs2 4 (by decide), hs2 5 (by decide)]; grind
    · rw [setF_eq, hs2 1 (by decide), hs2 2 (by decide), hs2 4 (by decide), hs2 5 (by decide)]; grind
    · rw [setF_eq, hs2 1 (by decide), hs2 2 (by decide), hs2 3 (by decide), hs2 5 (by decide)]; grind
    · rw [setF_eq, hs2 1 (by decide), hs2 2 (by decide), hs2 3 (by decide), hs2 4 (by decide)]; grind
  · rw [hs2 10 (by omega)] at h
    obtain ⟨rb, eb, g1, g2, g3, g4⟩ := I.b h
    refine ⟨rb, eb, g1, nth_set_other g2 (fun e => by subst e; rw [h2] at g2; cases g2), fun k' => ?_, fun h => g4 (by rwa [hs2 12 (by omega)] at h)⟩
    rw [g3]
    unfold hfB
    rw [hs2 11 (by omega)]
  · rw [hs2 6 (by omega)] at h
    obtain ⟨g0, g1, g2, g3, g4, g5⟩ := I.d6 h
    exact ⟨setF_ne g0, setF_ne g1, setF_ne g2, setF_ne g3, setF_ne g4, setF_ne g5⟩
  · rw [hs2 12 (by omega)] at h
    exact ⟨setF_ne (I.d12 h).1, setF_ne (I.d12 h).2⟩
  · rcases setF_inv h with rfl | h
    · exact setF_ne (s0 : sel 0 = true)
    · exact setF_ne (I.e0 j j1 j2 h)
  · rw [hs2 j (by omega)] at h
    exact setF_ne (I.e10 j j1 j2 h)
  all_goals first | rwa [hs2 7 (by omega)] at h | rwa [hs2 8 (by omega)] at h | rwa [hs2 9 (by omega)] at h | rwa [hs2 13 (by omega)] at h | rwa [hs2 14 (by omega)] at h | rwa [hs2 15 (by omega)] at h | rwa [hs2 16 (by omega)] at h | rwa [hs2 17 (by omega)] at h
theorem howForR_E : EnvOK ⟨Tryd.prog, tys, [(55, isEachR_S)], [], [], []⟩ := env_ok mixed0 tys0 (.cons isEachR_ca isEachR_ok .nil) .nil .nil rfl
theorem howForR_ca : callable Tryd.prog 56 = true := by kernel_rfl
def howForR_S : Spec := fun args K => ∃ (c : Cmd), args = [cmdV c] ∧ (1 ≤ c.kind ∧ c.kind ≤ 10) ∧ K (.int .i64 (howFor c))
set_option maxHeartbeats 4000000 in
theorem howForR_ok : Pure Tryd.prog 56 howForR_S := by
  refine pure_any howForR_E 1 (fi := {fn := Tryd.f56, hooks := [], draws := [(1, [0, 1, 1, 1, 1, 1, 63, 0, 128, 511, 0, 1024, 3072, 0, 8192, 31744, 65535, 131071])]}) Tryd.func56 rfl rfl (by kernel_rfl) (by kernel_rfl) (by kernel_rfl) ?_
  rintro _ K ⟨c, rfl, hk, hK⟩
  replace hK : ∀ r, r = .int .i64 (howFor c) → K r := fun r h => h ▸ hK
  refine ⟨(by show 1 ≤ 14; decide), ?_⟩
  conv => whnf
  refine ⟨HI c, ⟨rfl, rfl, nofun, nofun, nofun, nofun, nofun, nofun, nofun, nofun, nofun, nofun, nofun, nofun, nofun, nofun⟩, fun sel L rows i o ho hs hall I => ?_, fun sel L rows hall I => ?_⟩
  · have hi : i < 18 := (Array.getElem?_eq_some_iff.1 ho).1
    have hi2 : i = 0 ∨ i = 1 ∨ i = 2 ∨ i = 3 ∨ i = 4 ∨ i = 5 ∨ i = 6 ∨ i = 7 ∨ i = 8 ∨ i = 9 ∨ i = 10 ∨ i = 11 ∨ i = 12 ∨ i = 13 ∨ i = 14 ∨ i = 15 ∨ i = 16 ∨ i = 17 := by omega
    clear hi
    rcases hi2 with rfl | rfl | rfl | rfl | rfl | rfl | rfl | rfl | rfl | rfl | rfl | rfl | rfl | rfl | rfl | rfl | rfl | rfl
    · -- 0
      obtain rfl := Option.some.inj (show some _ = some o from ho)
      refine ⟨rfl, ?_⟩
      conv => whnf
      refine ⟨Int, intV, ?_⟩
      refine mk_of ?_
      have n1 : ∀ j, 1 ≤ j → j ≤ 6 → sel j = false := fun j j1 j2 => by
        cases h : sel j with
        | false => rfl
        | true => have := I.e0 j j1 j2 h; rw [hs] at this; cases this
      refine ⟨I.b1, nth_add I.b2, (fun _ => ⟨_, [], rfl, nth_new, ?_, fun h => ?_⟩), (fun h => ?_), (fun h => ?_), I.d12, (fun _ _ _ _ => rfl), (fun j j1 j2 h => (setF_inv h).elim (fun e => by omega) (fun h => I.e10 j j1 j2 h)), I.t7, I.t8, I.t9, I.t13, I.t14, I.t15, I.t16, I.t17⟩
      · intro k
        show (0 : Int) = hfA sel k
        unfold hfA
        simp [n1 1, n1 2, n1 3, n1 4, n1 5]
      · exact absurd (show sel 6 = true from h) (by rw [n1 6 (by decide) (by decide)]; simp)
      · obtain ⟨rb, eb, g1, g2, g3, g4⟩ := I.b h
        exact ⟨rb, eb, g1, nth_add g2, g3, g4⟩
      · exact absurd (show sel 6 = true from h) (by rw [n1 6 (by decide) (by decide)]; simp)
    · -- 1
      obtain rfl := Option.some.inj (show some _ = some o from ho)
      have s0 : sel 0 = true := hall ⟨0, .data⟩ (by simp) rfl
      obtain ⟨ra, ents, h1, h2, h3, h4⟩ := I.a s0
      refine ⟨rfl, ?_⟩
      have hx : mapPutO ⟨Tryd.prog, tys, [(55, isEachR_S)], [], [], []⟩ 133 (.map ra) (.int .i64 6) (.int .i64 2) rows fun v' rows' => HI c (setF sel 1) L rows' := by
        unfold mapPutO mapK
        conv => whnf
        rw [h2]
        conv => whnf
        refine ⟨2, rfl, rfl, rfl, ?_⟩
        exact setK_of _ _ _ _ (nth_set_self (y := .dead) h2).1 (hi_a I hs s0 (by decide) h1 h2 h3 h4)
      exact evO_of h1 hx
    · -- 2
      obtain rfl := Option.some.inj (show some _ = some o from ho)
      have s0 : sel 0 = true := hall ⟨0, .data⟩ (by simp) rfl
      obtain ⟨ra, ents, h1, h2, h3, h4⟩ := I.a s0
      refine ⟨rfl, ?_⟩
      have hx : mapPutO ⟨Tryd.prog, tys, [(55, isEachR_S)], [], [], []⟩ 133 (.map ra) (.int .i64 8) (.int .i64 3) rows fun v' rows' => HI c (setF sel 2) L rows' := by
        unfold mapPutO mapK
        conv => whnf
        rw [h2]
        conv => whnf
        refine ⟨3, rfl, rfl, rfl, ?_⟩
        exact setK_of _ _ _ _ (nth_set_self (y := .dead) h2).1 (hi_a I hs s0 (by decide) h1 h2 h3 h4)
      exact evO_of h1 hx
    · -- 3
      obtain rfl := Option.some.inj (show some _ = some o from ho)
      have s0 : sel 0 = true := hall ⟨0, .data⟩ (by simp) rfl
      obtain ⟨ra, ents, h1, h2, h3, h4⟩ := I.a s0
      refine ⟨rfl, ?_⟩
      have hx : mapPutO ⟨Tryd.prog, tys, [(55, isEachR_S)], [], [], []⟩ 133 (.map ra) (.int .i64 7) (.int .i64 4) rows fun v' rows' => HI c (setF sel 3) L rows' := by
        unfold mapPutO mapK
        conv => whnf
        rw [h2]
        conv => whnf
        refine ⟨4, rfl, rfl, rfl, ?_⟩
        exact setK_of _ _ _ _ (nth_set_self (y := .dead) h2).1 (hi_a I hs s0 (by decide) h1 h2 h3 h4)
      exact evO_of h1 hx
    · -- 4
      obtain rfl := Option.some.inj (show some _ = some o from ho)
      have s0 : sel 0 = true := hall ⟨0, .data⟩ (by simp) rfl
      obtain ⟨ra, ents, h1, h2, h3, h4⟩ := I.a s0
      refine ⟨rfl, ?_⟩
      have hx : mapPutO ⟨Tryd.prog, tys, [(55, isEachR_S)], [], [], []⟩ 133 (.map ra) (.int .i64 9) (.int .i64 4) rows fun v' rows' => HI c (setF sel 4) L rows' := by
        unfold mapPutO mapK
        conv => whnf
        rw [h2]
        conv => whnf
        refine ⟨4, rfl, rfl, rfl, ?_⟩
        exact setK_of _ _ _ _ (nth_set_self (y := .dead) h2).1 (hi_a I hs s0 (by decide) h1 h2 h3 h4)
      exact evO_of h1 hx
    · -- 5
      obtain rfl := Option.some.inj (show some _ = some o from ho)
      have s0 : sel 0 = true := hall ⟨0, .data⟩ (by simp) rfl
      obtain ⟨ra, ents, h1, h2, h3, h4⟩ := I.a s0
      refine ⟨rfl, ?_⟩
      have hx : mapPutO ⟨Tryd.prog, tys, [(55, isEachR_S)], [], [], []⟩ 133 (.map ra) (.int .i64 10) (.int .i64 4) rows fun v' rows' => HI c (setF sel 5) L rows' := by
        unfold mapPutO mapK
        conv => whnf
        rw [h2]
        conv => whnf
        refine ⟨4, rfl, rfl, rfl, ?_⟩
        exact setK_of _ _ _ _ (nth_set_self (y := .dead) h2).1 (hi_a I hs s0 (by decide) h1 h2 h3 h4)
      exact evO_of h1 hx
    · -- 6
      obtain rfl := Option.some.inj (show some _ = some o from ho)
      have s0 : sel 0 = true := hall ⟨0, .data⟩ (by simp) rfl
      have s1 : sel 1 = true := hall ⟨1, .data⟩ (by simp) rfl
      have s2 : sel 2 = true := hall ⟨2, .data⟩ (by simp) rfl
      have s3 : sel 3 = true := hall ⟨3, .data⟩ (by simp) rfl
      have s4 : sel 4 = true := hall ⟨4, .data⟩ (by simp) rfl
      have s5 : sel 5 = true := hall ⟨5, .data⟩ (by simp) rfl
      obtain ⟨ra, ents, h1, h2, h3, h4⟩ := I.a s0
      refine ⟨rfl, ?_⟩
      refine evO_of (t := 3) (h1) ?_
      exact ⟨I.b1, I.b2, (fun _ => ⟨ra, ents, h1, h2, h3, fun _ => rfl⟩), I.b, (fun _ => ⟨s0, s1, s2, s3, s4, s5⟩), I.d12, (fun _ _ _ _ => s0), (fun j j1 j2 h => (setF_inv h).elim (fun e => by omega) (fun h => I.e10 j j1 j2 h)), I.t7, I.t8, I.t9, I.t13, I.t14, I.t15, I.t16, I.t17⟩
    · -- 7
      obtain rfl := Option.some.inj (show some _ = some o from ho)
      refine ⟨rfl, ?_⟩
      refine evO_of (t := 1) (I.b1) ?_
      conv => whnf
      exact ⟨I.b1, I.b2, I.a, I.b, I.d6, I.d12, (fun j j1 j2 h => (setF_inv h).elim (fun e => by omega) (fun h => I.e0 j j1 j2 h)), (fun j j1 j2 h => (setF_inv h).elim (fun e => by omega) (fun h => I.e10 j j1 j2 h)), (fun _ => rfl), I.t8, I.t9, I.t13, I.t14, I.t15, I.t16, I.t17⟩
    · -- 8
      obtain rfl := Option.some.inj (show some _ = some o from ho)
      have s7 : sel 7 = true := hall ⟨7, .data⟩ (by simp) rfl
      refine ⟨rfl, ?_⟩
      refine evO_of (t := 5) (I.t7 s7) ?_
      have hx : loadO ⟨Tryd.prog, tys, [(55, isEachR_S)], [], [], []⟩ 3 (.ptr 0 0 0) rows fun v' => HI c (setF sel 8) ((6, v') :: L) rows := by
        unfold loadO
        conv => whnf
        rw [I.b2]
        conv => whnf
        exact ⟨I.b1, I.b2, I.a, I.b, I.d6, I.d12, (fun j j1 j2 h => (setF_inv h).elim (fun e => by omega) (fun h => I.e0 j j1 j2 h)), (fun j j1 j2 h => (setF_inv h).elim (fun e => by omega) (fun h => I.e10 j j1 j2 h)), I.t7, (fun _ => rfl), I.t9, I.t13, I.t14, I.t15, I.t16, I.t17⟩
      exact hx
    · -- 9
      obtain rfl := Option.some.inj (show some _ = some o from ho)
      have s6 : sel 6 = true := hall ⟨6, .data⟩ (by simp) rfl
      have s8 : sel 8 = true := hall ⟨8, .data⟩ (by simp) rfl
      obtain ⟨s0, s1, s2, s3, s4, s5⟩ := I.d6 s6
      obtain ⟨ra, ents, h1, h2, h3, h4⟩ := I.a s0
      refine ⟨rfl, ?_⟩
      refine evO_of (t := 4) (h4 s6) ?_
      refine evO_of (t := 6) (I.t8 s8) ?_
      have he : mget 0 ents [c.kind] = hfF c := by
        rw [h3]
        unfold hfF hfA
        simp only [s1, s2, s3, s4, s5]
      have hx : mapGetO ⟨Tryd.prog, tys, [(55, isEachR_S)], [], [], []⟩ 133 (.map ra) (.int .i64 c.kind) rows fun v' => HI c (setF sel 9) ((7, v') :: L) rows := by
        unfold mapGetO mapK
        conv => whnf
        rw [h2]
        conv => whnf
        refine ⟨(0 : Int), rfl, ?_⟩
        rw [he]
        exact ⟨I.b1, I.b2, I.a, I.b, I.d6, I.d12, (fun j j1 j2 h => (setF_inv h).elim (fun e => by omega) (fun h => I.e0 j j1 j2 h)), (fun j j1 j2 h => (setF_inv h).elim (fun e => by omega) (fun h => I.e10 j j1 j2 h)), I.t7, I.t8, (fun _ => rfl), I.t13, I.t14, I.t15, I.t16, I.t17⟩
      exact hx
    · -- 10
      obtain rfl := Option.some.inj (show some _ = some o from ho)
      refine ⟨rfl, ?_⟩
      conv => whnf
      refine ⟨Int, intV, ?_⟩
      refine mk_of ?_
      have n1 : ∀ j, 11 ≤ j → j ≤ 12 → sel j = false := fun j j1 j2 => by
        cases h : sel j with
        | false => rfl
        | true => have := I.e10 j j1 j2 h; rw [hs] at this; cases this
      refine ⟨I.b1, nth_add I.b2, (fun h => ?_), (fun _ => ⟨_, [], rfl, nth_new, ?_, fun h => ?_⟩), I.d6, (fun h => ?_), (fun j j1 j2 h => (setF_inv h).elim (fun e => by omega) (fun h => I.e0 j j1 j2 h)), (fun _ _ _ _ => rfl), I.t7, I.t8, I.t9, I.t13, I.t14, I.t15, I.t16, I.t17⟩
      · obtain ⟨ra, ea, g1, g2, g3, g4⟩ := I.a h
        exact ⟨ra, ea, g1, nth_add g2, g3, g4⟩
      · intro k
        show (0 : Int) = hfB sel k
        unfold hfB
        simp [n1 11]
      · exact absurd (show sel 12 = true from h) (by rw [n1 12 (by decide) (by decide)]; simp)
      · exact absurd (show sel 12 = true from h) (by rw [n1 12 (by decide) (by decide)]; simp)
    · -- 11
      obtain rfl := Option.some.inj (show some _ = some o from ho)
      have s10 : sel 10 = true := hall ⟨10, .data⟩ (by simp) rfl
      obtain ⟨rb, ents, h1, h2, h3, h4⟩ := I.b s10
      have hn0 : rb ≠ 0 := fun e => by subst e; rw [I.b2] at h2; cases h2
      refine ⟨rfl, ?_⟩
      have hx : mapPutO ⟨Tryd.prog, tys, [(55, isEachR_S)], [], [], []⟩ 134 (.map rb) (.lit true) (.int .i64 1) rows fun v' rows' => HI c (setF sel 11) L rows' := by
        unfold mapPutO mapK
        conv => whnf
        rw [h2]
        conv => whnf
        refine ⟨1, rfl, rfl, rfl, ?_⟩
        refine setK_of _ _ _ _ (nth_set_self (y := .dead) h2).1 ?_
        refine ⟨I.b1, nth_set_other I.b2 hn0, (fun h => ?_), (fun _ => ⟨rb, _, h1, (nth_set_self h2).2, fun k => ?_, h4⟩), I.d6, (fun h => ⟨s10, rfl⟩), (fun j j1 j2 h => (setF_inv h).elim (fun e => by omega) (fun h => I.e0 j j1 j2 h)), (fun _ _ _ _ => s10), I.t7, I.t8, I.t9, I.t13, I.t14, I.t15, I.t16, I.t17⟩
        · obtain ⟨ra, ea, g1, g2, g3, g4⟩ := I.a h
          exact ⟨ra, ea, g1, nth_set_other g2 (fun e => by subst e; rw [h2] at g2; cases g2), g3, g4⟩
        · rw [mget_mput, h3]
          have e : ([(1 : Int)] = [k]) = (k = 1) := by simp [eq_comm]
          show (if [(1 : Int)] = [k] then 1 else hfB sel k) = (if k = 1 ∧ true = true then (1 : Int) else 0)
          simp only [e]
          unfold hfB
          rw [hs]
          simp
      exact evO_of h1 hx
    · -- 12
      obtain rfl := Option.some.inj (show some _ = some o from ho)
      have s10 : sel 10 = true := hall ⟨10, .data⟩ (by simp) rfl
      have s11 : sel 11 = true := hall ⟨11, .data⟩ (by simp) rfl
      obtain ⟨rb, ents, h1, h2, h3, h4⟩ := I.b s10
      refine ⟨rfl, ?_⟩
      refine evO_of (t := 8) (h1) ?_
      exact ⟨I.b1, I.b2, I.a, (fun _ => ⟨rb, ents, h1, h2, h3, fun _ => rfl⟩), I.d6, (fun _ => ⟨s10, s11⟩), (fun j j1 j2 h => (setF_inv h).elim (fun e => by omega) (fun h => I.e0 j j1 j2 h)), (fun _ _ _ _ => s10), I.t7, I.t8, I.t9, I.t13, I.t14, I.t15, I.t16, I.t17⟩
    · -- 13
      obtain rfl := Option.some.inj (show some _ = some o from ho)
      refine ⟨rfl, ?_⟩
      refine evO_of (t := 1) (I.b1) ?_
      have hx : loadO ⟨Tryd.prog, tys, [(55, isEachR_S)], [], [], []⟩ 64 (.ptr 0 0 0) rows fun v' => HI c (setF sel 13) ((10, v') :: L) rows := by
        unfold loadO
        conv => whnf
        rw [I.b2]
        conv => whnf
        exact ⟨I.b1, I.b2, I.a, I.b, I.d6, I.d12, (fun j j1 j2 h => (setF_inv h).elim (fun e => by omega) (fun h => I.e0 j j1 j2 h)), (fun j j1 j2 h => (setF_inv h).elim (fun e => by omega) (fun h => I.e10 j j1 j2 h)), I.t7, I.t8, I.t9, (fun _ => rfl), I.t14, I.t15, I.t16, I.t17⟩
      exact hx
    · -- 14
      obtain rfl := Option.some.inj (show some _ = some o from ho)
      have s13 : sel 13 = true := hall ⟨13, .data⟩ (by simp) rfl
      refine ⟨rfl, ?_⟩
      conv => whnf
      rw [I.t13 s13]
      conv => whnf
      refine ⟨c, rfl, ?_⟩
      exact ⟨I.b1, I.b2, I.a, I.b, I.d6, I.d12, (fun j j1 j2 h => (setF_inv h).elim (fun e => by omega) (fun h => I.e0 j j1 j2 h)), (fun j j1 j2 h => (setF_inv h).elim (fun e => by omega) (fun h => I.e10 j j1 j2 h)), I.t7, I.t8, I.t9, I.t13, (fun _ => rfl), I.t15, I.t16, I.t17⟩
    · -- 15
      obtain rfl := Option.some.inj (show some _ = some o from ho)
      have s12 : sel 12 = true := hall ⟨12, .data⟩ (by simp) rfl
      have s14 : sel 14 = true := hall ⟨14, .data⟩ (by simp) rfl
      obtain ⟨s10, s11⟩ := I.d12 s12
      obtain ⟨rb, ents, h1, h2, h3, h4⟩ := I.b s10
      refine ⟨rfl, ?_⟩
      refine evO_of (t := 9) (h4 s12) ?_
      refine evO_of (t := 11) (I.t14 s14) ?_
      have he : mget 0 ents [b2i (Gp.each c)] = hfG c := by
        rw [h3]
        unfold hfG hfB
        simp only [s11]
      have hx : mapGetO ⟨Tryd.prog, tys, [(55, isEachR_S)], [], [], []⟩ 134 (.map rb) (.bool (Gp.each c)) rows fun v' => HI c (setF sel 15) ((12, v') :: L) rows := by
        unfold mapGetO mapK
        conv => whnf
        rw [h2]
        conv => whnf
        refine ⟨(0 : Int), rfl, ?_⟩
        rw [he]
        exact ⟨I.b1, I.b2, I.a, I.b, I.d6, I.d12, (fun j j1 j2 h => (setF_inv h).elim (fun e => by omega) (fun h => I.e0 j j1 j2 h)), (fun j j1 j2 h => (setF_inv h).elim (fun e => by omega) (fun h => I.e10 j j1 j2 h)), I.t7, I.t8, I.t9, I.t13, I.t14, (fun _ => rfl), I.t16, I.t17⟩
      exact hx
    · -- 16
      obtain rfl := Option.some.inj (show some _ = some o from ho)
      have s9 : sel 9 = true := hall ⟨9, .data⟩ (by simp) rfl
      have s15 : sel 15 = true := hall ⟨15, .data⟩ (by simp) rfl
      refine ⟨rfl, ?_⟩
      conv => whnf
      rw [I.t9 s9]
      conv => whnf
      rw [I.t15 s15]
      conv => whnf
      exact ⟨hfI c, ⟨I.b1, I.b2, I.a, I.b, I.d6, I.d12, (fun j j1 j2 h => (setF_inv h).elim (fun e => by omega) (fun h => I.e0 j j1 j2 h)), (fun j j1 j2 h => (setF_inv h).elim (fun e => by omega) (fun h => I.e10 j j1 j2 h)), I.t7, I.t8, I.t9, I.t13, I.t14, I.t15, (fun _ => rfl), I.t17⟩⟩
    · -- 17
      obtain rfl := Option.some.inj (show some _ = some o from ho)
      have s16 : sel 16 = true := hall ⟨16, .data⟩ (by simp) rfl
      refine ⟨rfl, ?_⟩
      refine evO_of (t := 13) (I.t16 s16) ?_
      exact ⟨I.b1, I.b2, I.a, I.b, I.d6, I.d12, (fun j j1 j2 h => (setF_inv h).elim (fun e => by omega) (fun h => I.e0 j j1 j2 h)), (fun j j1 j2 h => (setF_inv h).elim (fun e => by omega) (fun h => I.e10 j j1 j2 h)), I.t7, I.t8, I.t9, I.t13, I.t14, I.t15, I.t16, (fun _ => rfl)⟩
  · refine ⟨_, I.t17 (hall 17 (by show 17 < 18; decide)), ?_⟩
    conv => whnf
    refine hK _ ?_
    rw [hf_eq hk]
end Gv
namespace Gv
variable [Glob] [Laid]
theorem planned1R_ca : callable Tryd.prog 53 = true := by kernel_rfl
def planned1R_P : PSpec := fun args rows K => ∃ (n : Gp.Node) (o : Nat) (M : List Gp.Node), args = [nodeV n, .int .i64 o, .ptr 0 0 0] ∧ rows = [.box [.own 1], .row 8 (M.map nodeV)] ∧ (M.length ≤ 1000 ∧ o ≤ 1000) ∧ K (.own 3) [.box [.own 2], .dead, .row 8 ((M ++ [n]).map nodeV), .row 2 ((ports M.length o).map portV)]
noncomputable def planned1R_lib : List (Nat × Spec) := []
noncomputable def planned1R_fns : List (Nat × FnI) := []
noncomputable def planned1R_prims : List (Nat × PSpec) := []
theorem planned1R_E : EnvOK ⟨Tryd.prog, tys, planned1R_lib, planned1R_fns, planned1R_prims, []⟩ := env_ok mixed0 tys0 .nil .nil .nil rfl
set_option maxHeartbeats 4000000 in
theorem planned1R_prim : PrimOK Tryd.prog 53 planned1R_P := by
  refine prim_by planned1R_E 6 planned1R_ca (fi := {fn := Tryd.f53, hooks := [], draws := []}) ⟨Tryd.func53, by kernel_rfl, by kernel_rfl⟩ ?_
  rintro args rows K ⟨n, o, M, rfl, rfl, ⟨hM, ho⟩, hK⟩
  repeat' (first | exact True.intro | refine ⟨_, LeL.refl _, ?_⟩ | refine ⟨_, _, _, LeL.refl _, ?_⟩ | (refine fun (b : Bool) hb => ?_; cases b <;> (first | exact absurd hb (by decide) | exact Bool.noConfusion (show true = false from hb) | exact Bool.noConfusion (show false = true from hb) | skip)) | (refine fun (hl : _ ≤ MAXL) => ?_) | refine And.intro (a := I64 _) ?_ ?_ | refine And.intro (a := _ ≤ 140737488355328) ?_ ?_ | refine ⟨_, ⟨rfl, rfl⟩, ?_⟩ | refine ⟨_, And.intro (a := I64 _) ?_ ⟨rfl, rfl⟩, ?_⟩ | refine ⟨_, _, ⟨rfl, rfl⟩, ?_⟩ | refine ⟨_, (fun _ => ⟨rfl, rfl⟩), ?_⟩ | refine And.intro (a := chkPend _ _ _ _ _ _) ?_ ?_ | refine And.intro (a := chkPast _ _ _ _ _ _ _ _) ?_ ?_ | refine ⟨⟨rfl, rfl⟩, ?_⟩ | refine And.intro (And.intro rfl rfl) ?_ | refine ⟨True.intro, ?_⟩ | refine ⟨_, ⟨_, rfl, ?_, rfl, rfl, rfl⟩, ?_⟩ | refine ⟨_, rfl, ?_, rfl, ?_⟩ | refine ⟨_, (fun _ => rfl), rfl, ?_⟩ | refine ⟨(fun _ => rfl), ?_⟩ | refine ⟨rfl, ?_⟩ | refine Opt.a ?_ | fail)
  · simp only [List.length_map, List.length_cons, List.length_nil]
    omega
  conv => whnf
  refine loop_live [2, 14] (σ := Nat) (fun k => [(6, .own 3), (15, .int .i64 k)]) (fun k => [.box [.own 2], .dead, .row 8 ((M ++ [n]).map nodeV), .row 2 ((ports M.length k).map portV)]) (fun k => k ≤ o) (fun k => o - k) 0 ?_
  conv => whnf
  refine ⟨?_, Nat.zero_le _, fun k hk => ?_⟩
  · rw [List.map_append]
    exact (by (refine wk_auto ?_; refine Sel4.mk rfl rfl ?_ ?_ <;> (repeat' (first | exact True.intro | exact rfl | exact Or.inl rfl | exact Or.inr rfl | refine And.intro ?_ ?_ | fail))))
  repeat' (first | exact True.intro | refine ⟨_, LeL.refl _, ?_⟩ | refine ⟨_, _, _, LeL.refl _, ?_⟩ | (refine fun (b : Bool) hb => ?_; cases b <;> (first | exact absurd hb (by decide) | exact Bool.noConfusion (show true = false from hb) | exact Bool.noConfusion (show false = true from hb) | skip)) | (refine fun (hl : _ ≤ MAXL) => ?_) | refine And.intro (a := I64 _) ?_ ?_ | refine And.intro (a := _ ≤ 140737488355328) ?_ ?_ | refine ⟨_, ⟨rfl, rfl⟩, ?_⟩ | refine ⟨_, And.intro (a := I64 _) ?_ ⟨rfl, rfl⟩, ?_⟩ | refine ⟨_, _, ⟨rfl, rfl⟩, ?_⟩ | refine ⟨_, (fun _ => ⟨rfl, rfl⟩), ?_⟩ | refine And.intro (a := chkPend _ _ _ _ _ _) ?_ ?_ | refine And.intro (a := chkPast _ _ _ _ _ _ _ _) ?_ ?_ | refine ⟨⟨rfl, rfl⟩, ?_⟩ | refine And.intro (And.intro rfl rfl) ?_ | refine ⟨True.intro, ?_⟩ | refine ⟨_, ⟨_, rfl, ?_, rfl, rfl, rfl⟩, ?_⟩ | refine ⟨_, rfl, ?_, rfl, ?_⟩ | refine ⟨_, (fun _ => rfl), rfl, ?_⟩ | refine ⟨(fun _ => rfl), ?_⟩ | refine ⟨rfl, ?_⟩ | refine Opt.a ?_ | fail)
  · have : k = o := by grind
    subst this
    exact hK
  · simp only [List.length_map, List.length_append, List.length_cons, List.length_nil]
    unfold I64
    omega
  · have := ports_len M.length k
    simp only [List.length_map, List.length_cons, List.length_nil]
    omega
  · unfold I64
    omega
  · refine ⟨k + 1, ?_, by grind, by grind⟩
    (refine wk_auto ?_; refine Sel4.mk rfl rfl ?_ ?_ <;> (repeat' (first | exact True.intro | exact rfl | exact Or.inl rfl | exact Or.inr rfl | refine And.intro ?_ ?_ | fail)))
    show Row.row 2 _ = Row.row 2 _
    rw [ports_succ, List.map_append]
    simp [portV]
end Gv
namespace Gv
variable [Glob] [Laid]
theorem planned2R_ca : callable Tryd.prog 54 = true := by kernel_rfl
def planned2R_P : PSpec := fun args rows K => ∃ (d : Desk), args = [.ptr 0 0 0, .ptr 1 0 0] ∧ rows = [.box [.own 2], .box [.fn 53 [.ptr 3 0 0]], .row 2 (d.cur.map portV), .box [.own 4], .row 8 (d.nodes.map nodeV)] ∧ (d.nodes.length ≤ 1000) ∧ (¬ 1 < d.cur.length → K (.tup []) rows) ∧ (1 < d.cur.length → K (.tup []) [.box [.own 6], .box [.fn 53 [.ptr 3 0 0]], .fz portV d.cur, .box [.own 5], .dead, .row 8 ((d.nodes ++ [joinN 1 zCmd d.cur]).map nodeV), .row 2 ((ports d.nodes.length 1).map portV)])
noncomputable def planned2R_lib : List (Nat × Spec) := []
noncomputable def planned2R_fns : List (Nat × FnI) := []
noncomputable def planned2R_prims : List (Nat × PSpec) := [(53, planned1R_P)]
theorem planned2R_E : EnvOK ⟨Tryd.prog, tys, planned2R_lib, planned2R_fns, planned2R_prims, []⟩ := env_ok mixed0 tys0 .nil .nil (.cons planned1R_prim .nil) rfl
set_option maxHeartbeats 4000000 in
theorem planned2R_prim : PrimOK Tryd.prog 54 planned2R_P := by
  refine prim_by planned2R_E 6 planned2R_ca (fi := {fn := Tryd.f54, hooks := [], draws := []}) ⟨Tryd.func54, by kernel_rfl, by kernel_rfl⟩ ?_
  rintro args rows K ⟨d, rfl, rfl, hd, hK1, hK2⟩
  repeat' (first | exact True.intro | refine ⟨_, LeL.refl _, ?_⟩ | refine ⟨_, _, _, LeL.refl _, ?_⟩ | (refine fun (b : Bool) hb => ?_; cases b <;> (first | exact absurd hb (by decide) | exact Bool.noConfusion (show true = false from hb) | exact Bool.noConfusion (show false = true from hb) | skip)) | (refine fun (hl : _ ≤ MAXL) => ?_) | refine And.intro (a := I64 _) ?_ ?_ | refine And.intro (a := _ ≤ 140737488355328) ?_ ?_ | refine ⟨_, ⟨rfl, rfl⟩, ?_⟩ | refine ⟨_, And.intro (a := I64 _) ?_ ⟨rfl, rfl⟩, ?_⟩ | refine ⟨_, _, ⟨rfl, rfl⟩, ?_⟩ | refine ⟨_, (fun _ => ⟨rfl, rfl⟩), ?_⟩ | refine And.intro (a := chkPend _ _ _ _ _ _) ?_ ?_ | refine And.intro (a := chkPast _ _ _ _ _ _ _ _) ?_ ?_ | refine ⟨⟨rfl, rfl⟩, ?_⟩ | refine And.intro (And.intro rfl rfl) ?_ | refine ⟨True.intro, ?_⟩ | refine ⟨_, ⟨_, rfl, ?_, rfl, rfl, rfl⟩, ?_⟩ | refine ⟨_, rfl, ?_, rfl, ?_⟩ | refine ⟨_, (fun _ => rfl), rfl, ?_⟩ | refine ⟨(fun _ => rfl), ?_⟩ | refine ⟨rfl, ?_⟩ | refine Opt.a ?_ | fail)
  · refine hK1 ?_
    have h : decide ((1 : Int) < ((d.cur.map portV).length : Int)) = false := by assumption
    have : ¬ (1 : Int) < ((d.cur.map portV).length : Int) := by simpa using h
    simp only [List.length_map] at this
    omega
  · refine ⟨joinN 1 zCmd d.cur, 1, d.nodes, rfl, rfl, ⟨by omega, by omega⟩, ?_⟩
    repeat' (first | exact True.intro | refine ⟨_, LeL.refl _, ?_⟩ | refine ⟨_, _, _, LeL.refl _, ?_⟩ | (refine fun (b : Bool) hb => ?_; cases b <;> (first | exact absurd hb (by decide) | exact Bool.noConfusion (show true = false from hb) | exact Bool.noConfusion (show false = true from hb) | skip)) | (refine fun (hl : _ ≤ MAXL) => ?_) | refine And.intro (a := I64 _) ?_ ?_ | refine And.intro (a := _ ≤ 140737488355328) ?_ ?_ | refine ⟨_, ⟨rfl, rfl⟩, ?_⟩ | refine ⟨_, And.intro (a := I64 _) ?_ ⟨rfl, rfl⟩, ?_⟩ | refine ⟨_, _, ⟨rfl, rfl⟩, ?_⟩ | refine ⟨_, (fun _ => ⟨rfl, rfl⟩), ?_⟩ | refine And.intro (a := chkPend _ _ _ _ _ _) ?_ ?_ | refine And.intro (a := chkPast _ _ _ _ _ _ _ _) ?_ ?_ | refine ⟨⟨rfl, rfl⟩, ?_⟩ | refine And.intro (And.intro rfl rfl) ?_ | refine ⟨True.intro, ?_⟩ | refine ⟨_, ⟨_, rfl, ?_, rfl, rfl, rfl⟩, ?_⟩ | refine ⟨_, rfl, ?_, rfl, ?_⟩ | refine ⟨_, (fun _ => rfl), rfl, ?_⟩ | refine ⟨(fun _ => rfl), ?_⟩ | refine ⟨rfl, ?_⟩ | refine Opt.a ?_ | fail)
    refine hK2 ?_
    have h : decide ((1 : Int) < ((d.cur.map portV).length : Int)) = true := by assumption
    have : (1 : Int) < ((d.cur.map portV).length : Int) := by simpa using h
    simp only [List.length_map] at this
    omega
end Gv
