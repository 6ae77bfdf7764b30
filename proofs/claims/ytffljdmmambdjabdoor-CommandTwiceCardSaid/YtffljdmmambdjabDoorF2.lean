/- What functions of the program come to, part 2: in every world; the conditions stand in each theorem. -/
import Derived.Test.YtffljdmmambdjabDoorF1
set_option linter.unusedVariables false
set_option linter.unusedSectionVars false
set_option linter.unusedSimpArgs false
open Go Go.Proofs Gw Gp
namespace Gv
variable [Glob] [Laid] [Nums]
theorem sort3 : linesC ⟨6, [], 0⟩ [[98, 32, 120], [97], [98, 32, 120]] = [[97], [98, 32, 120], [98, 32, 120]] := by
  show sortB _ = _
  refine sortB_of ?_ (by decide)
  exact List.Perm.swap _ _ _
theorem did1 : doC ⟨6, [], 0⟩ [98, 32, 120, 10, 97, 10, 98, 32, 120] = ([97, 10, 98, 32, 120, 10, 98, 32, 120, 10], 0) := by
  have h1 : linesOf [98, 32, 120, 10, 97, 10, 98, 32, 120] = [[98, 32, 120], [97], [98, 32, 120]] := by decide
  have h2 : checkCmd ⟨6, [], 0⟩ = 0 := by decide
  unfold doC
  rw [if_neg (by rw [h2]; simp), if_neg (by decide), h1, sort3]
  rfl
theorem did2 : doC ⟨1, [120], 0⟩ [98, 32, 120, 10, 97, 10, 98, 32, 120] = ([98, 32, 120, 10, 98, 32, 120, 10], 0) := by decide
theorem did3 : doC ⟨4, [], 2⟩ [98, 32, 120, 10, 97, 10, 98, 32, 120] = ([120, 10, 10, 120, 10], 0) := by decide
theorem did4 : doC ⟨8, [], 0⟩ [98, 32, 120, 10, 97, 10, 98, 32, 120] = ([51, 10], 0) := by
  have h1 : linesOf [98, 32, 120, 10, 97, 10, 98, 32, 120] = [[98, 32, 120], [97], [98, 32, 120]] := by decide
  have h2 : checkCmd ⟨8, [], 0⟩ = 0 := by decide
  have h3 : Lib.itoa 3 = [51] := by
    unfold Lib.itoa
    rw [if_neg (by decide)]
    exact Lib.decDigits_one (i := 3) (by decide)
  unfold doC
  rw [if_neg (by rw [h2]; simp), if_neg (by decide), h1]
  show (put [Lib.itoa 3], (0 : Int)) = _
  rw [h3]
  rfl
theorem did5 : doC ⟨5, [], 0⟩ [98, 32, 120, 10, 97, 10, 98, 32, 120] = ([120, 32, 98, 10, 97, 10, 120, 32, 98, 10], 0) := by decide
theorem did_ca : callable Tryd.prog 4 = true := by kernel_rfl
def did_S : Spec := fun args K => args = [] ∧ K (.bool true)
noncomputable def did_lib : List (Nat × Spec) := [(7, Do_S)]
noncomputable def did_fns : List (Nat × FnI) := [(15, {fn := Tryd.f15, hooks := [], draws := []})]
noncomputable def did_prims : List (Nat × PSpec) := []
theorem did_E : EnvOK ⟨Tryd.prog, tys, did_lib, did_fns, did_prims, []⟩ := env_ok mixed0 tys0 (.cons Do_ca Do_ok .nil) (.cons (by kernel_rfl) ⟨Tryd.func15, by kernel_rfl, by kernel_rfl⟩ .nil) .nil rfl
set_option maxHeartbeats 4000000 in
theorem did_ok : Pure Tryd.prog 4 did_S := by
  refine pure_by did_E 6 (fi := {fn := Tryd.f4, hooks := [], draws := []}) ⟨Tryd.func4, by kernel_rfl, by kernel_rfl⟩ ?_
  rintro _ K ⟨rfl, hK⟩
  replace hK : ∀ r, r = .bool true → K r := fun r h => h ▸ hK
  repeat' (first | exact True.intro | refine ⟨_, LeL.refl _, ?_⟩ | refine ⟨_, _, _, LeL.refl _, ?_⟩ | (refine fun (b : Bool) hb => ?_; cases b <;> (first | exact absurd hb (by decide) | exact Bool.noConfusion (show true = false from hb) | exact Bool.noConfusion (show false = true from hb) | skip)) | (refine fun (hl : _ ≤ MAXL) => ?_) | refine And.intro (a := I64 _) ?_ ?_ | refine And.intro (a := _ ≤ 140737488355328) ?_ ?_ | refine ⟨_, ⟨rfl, rfl⟩, ?_⟩ | refine ⟨_, And.intro (a := I64 _) ?_ ⟨rfl, rfl⟩, ?_⟩ | refine ⟨_, _, ⟨rfl, rfl⟩, ?_⟩ | refine ⟨_, (fun _ => ⟨rfl, rfl⟩), ?_⟩ | refine And.intro (a := chkPend _ _ _ _ _ _) ?_ ?_ | refine And.intro (a := chkPast _ _ _ _ _ _ _ _) ?_ ?_ | refine ⟨⟨rfl, rfl⟩, ?_⟩ | refine And.intro (And.intro rfl rfl) ?_ | refine ⟨True.intro, ?_⟩ | refine ⟨_, ⟨_, rfl, ?_, rfl, rfl, rfl⟩, ?_⟩ | refine ⟨_, rfl, ?_, rfl, ?_⟩ | refine ⟨_, (fun _ => rfl), rfl, ?_⟩ | refine ⟨(fun _ => rfl), ?_⟩ | refine ⟨rfl, ?_⟩ | refine Opt.a ?_ | fail)
  refine ⟨[98, 32, 120, 10, 97, 10, 98, 32, 120], rfl, by simp, ?_⟩
  repeat' (first | exact True.intro | refine ⟨_, LeL.refl _, ?_⟩ | refine ⟨_, _, _, LeL.refl _, ?_⟩ | (refine fun (b : Bool) hb => ?_; cases b <;> (first | exact absurd hb (by decide) | exact Bool.noConfusion (show true = false from hb) | exact Bool.noConfusion (show false = true from hb) | skip)) | (refine fun (hl : _ ≤ MAXL) => ?_) | refine And.intro (a := I64 _) ?_ ?_ | refine And.intro (a := _ ≤ 140737488355328) ?_ ?_ | refine ⟨_, ⟨rfl, rfl⟩, ?_⟩ | refine ⟨_, And.intro (a := I64 _) ?_ ⟨rfl, rfl⟩, ?_⟩ | refine ⟨_, _, ⟨rfl, rfl⟩, ?_⟩ | refine ⟨_, (fun _ => ⟨rfl, rfl⟩), ?_⟩ | refine And.intro (a := chkPend _ _ _ _ _ _) ?_ ?_ | refine And.intro (a := chkPast _ _ _ _ _ _ _ _) ?_ ?_ | refine ⟨⟨rfl, rfl⟩, ?_⟩ | refine And.intro (And.intro rfl rfl) ?_ | refine ⟨True.intro, ?_⟩ | refine ⟨_, ⟨_, rfl, ?_, rfl, rfl, rfl⟩, ?_⟩ | refine ⟨_, rfl, ?_, rfl, ?_⟩ | refine ⟨_, (fun _ => rfl), rfl, ?_⟩ | refine ⟨(fun _ => rfl), ?_⟩ | refine ⟨rfl, ?_⟩ | refine Opt.a ?_ | fail)
  refine ⟨⟨6, [], 0⟩, [98, 32, 120, 10, 97, 10, 98, 32, 120], rfl, ?_⟩
  rw [did1]
  repeat' (first | exact True.intro | refine ⟨_, LeL.refl _, ?_⟩ | refine ⟨_, _, _, LeL.refl _, ?_⟩ | (refine fun (b : Bool) hb => ?_; cases b <;> (first | exact absurd hb (by decide) | exact Bool.noConfusion (show true = false from hb) | exact Bool.noConfusion (show false = true from hb) | skip)) | (refine fun (hl : _ ≤ MAXL) => ?_) | refine And.intro (a := I64 _) ?_ ?_ | refine And.intro (a := _ ≤ 140737488355328) ?_ ?_ | refine ⟨_, ⟨rfl, rfl⟩, ?_⟩ | refine ⟨_, And.intro (a := I64 _) ?_ ⟨rfl, rfl⟩, ?_⟩ | refine ⟨_, _, ⟨rfl, rfl⟩, ?_⟩ | refine ⟨_, (fun _ => ⟨rfl, rfl⟩), ?_⟩ | refine And.intro (a := chkPend _ _ _ _ _ _) ?_ ?_ | refine And.intro (a := chkPast _ _ _ _ _ _ _ _) ?_ ?_ | refine ⟨⟨rfl, rfl⟩, ?_⟩ | refine And.intro (And.intro rfl rfl) ?_ | refine ⟨True.intro, ?_⟩ | refine ⟨_, ⟨_, rfl, ?_, rfl, rfl, rfl⟩, ?_⟩ | refine ⟨_, rfl, ?_, rfl, ?_⟩ | refine ⟨_, (fun _ => rfl), rfl, ?_⟩ | refine ⟨(fun _ => rfl), ?_⟩ | refine ⟨rfl, ?_⟩ | refine Opt.a ?_ | fail)
  refine ⟨⟨1, [120], 0⟩, [98, 32, 120, 10, 97, 10, 98, 32, 120], rfl, ?_⟩
  rw [did2]
  repeat' (first | exact True.intro | refine ⟨_, LeL.refl _, ?_⟩ | refine ⟨_, _, _, LeL.refl _, ?_⟩ | (refine fun (b : Bool) hb => ?_; cases b <;> (first | exact absurd hb (by decide) | exact Bool.noConfusion (show true = false from hb) | exact Bool.noConfusion (show false = true from hb) | skip)) | (refine fun (hl : _ ≤ MAXL) => ?_) | refine And.intro (a := I64 _) ?_ ?_ | refine And.intro (a := _ ≤ 140737488355328) ?_ ?_ | refine ⟨_, ⟨rfl, rfl⟩, ?_⟩ | refine ⟨_, And.intro (a := I64 _) ?_ ⟨rfl, rfl⟩, ?_⟩ | refine ⟨_, _, ⟨rfl, rfl⟩, ?_⟩ | refine ⟨_, (fun _ => ⟨rfl, rfl⟩), ?_⟩ | refine And.intro (a := chkPend _ _ _ _ _ _) ?_ ?_ | refine And.intro (a := chkPast _ _ _ _ _ _ _ _) ?_ ?_ | refine ⟨⟨rfl, rfl⟩, ?_⟩ | refine And.intro (And.intro rfl rfl) ?_ | refine ⟨True.intro, ?_⟩ | refine ⟨_, ⟨_, rfl, ?_, rfl, rfl, rfl⟩, ?_⟩ | refine ⟨_, rfl, ?_, rfl, ?_⟩ | refine ⟨_, (fun _ => rfl), rfl, ?_⟩ | refine ⟨(fun _ => rfl), ?_⟩ | refine ⟨rfl, ?_⟩ | refine Opt.a ?_ | fail)
  refine ⟨⟨4, [], 2⟩, [98, 32, 120, 10, 97, 10, 98, 32, 120], rfl, ?_⟩
  rw [did3]
  repeat' (first | exact True.intro | refine ⟨_, LeL.refl _, ?_⟩ | refine ⟨_, _, _, LeL.refl _, ?_⟩ | (refine fun (b : Bool) hb => ?_; cases b <;> (first | exact absurd hb (by decide) | exact Bool.noConfusion (show true = false from hb) | exact Bool.noConfusion (show false = true from hb) | skip)) | (refine fun (hl : _ ≤ MAXL) => ?_) | refine And.intro (a := I64 _) ?_ ?_ | refine And.intro (a := _ ≤ 140737488355328) ?_ ?_ | refine ⟨_, ⟨rfl, rfl⟩, ?_⟩ | refine ⟨_, And.intro (a := I64 _) ?_ ⟨rfl, rfl⟩, ?_⟩ | refine ⟨_, _, ⟨rfl, rfl⟩, ?_⟩ | refine ⟨_, (fun _ => ⟨rfl, rfl⟩), ?_⟩ | refine And.intro (a := chkPend _ _ _ _ _ _) ?_ ?_ | refine And.intro (a := chkPast _ _ _ _ _ _ _ _) ?_ ?_ | refine ⟨⟨rfl, rfl⟩, ?_⟩ | refine And.intro (And.intro rfl rfl) ?_ | refine ⟨True.intro, ?_⟩ | refine ⟨_, ⟨_, rfl, ?_, rfl, rfl, rfl⟩, ?_⟩ | refine ⟨_, rfl, ?_, rfl, ?_⟩ | refine ⟨_, (fun _ => rfl), rfl, ?_⟩ | refine ⟨(fun _ => rfl), ?_⟩ | refine ⟨rfl, ?_⟩ | refine Opt.a ?_ | fail)
  refine ⟨⟨8, [], 0⟩, [98, 32, 120, 10, 97, 10, 98, 32, 120], rfl, ?_⟩
  rw [did4]
  repeat' (first | exact True.intro | refine ⟨_, LeL.refl _, ?_⟩ | refine ⟨_, _, _, LeL.refl _, ?_⟩ | (refine fun (b : Bool) hb => ?_; cases b <;> (first | exact absurd hb (by decide) | exact Bool.noConfusion (show true = false from hb) | exact Bool.noConfusion (show false = true from hb) | skip)) | (refine fun (hl : _ ≤ MAXL) => ?_) | refine And.intro (a := I64 _) ?_ ?_ | refine And.intro (a := _ ≤ 140737488355328) ?_ ?_ | refine ⟨_, ⟨rfl, rfl⟩, ?_⟩ | refine ⟨_, And.intro (a := I64 _) ?_ ⟨rfl, rfl⟩, ?_⟩ | refine ⟨_, _, ⟨rfl, rfl⟩, ?_⟩ | refine ⟨_, (fun _ => ⟨rfl, rfl⟩), ?_⟩ | refine And.intro (a := chkPend _ _ _ _ _ _) ?_ ?_ | refine And.intro (a := chkPast _ _ _ _ _ _ _ _) ?_ ?_ | refine ⟨⟨rfl, rfl⟩, ?_⟩ | refine And.intro (And.intro rfl rfl) ?_ | refine ⟨True.intro, ?_⟩ | refine ⟨_, ⟨_, rfl, ?_, rfl, rfl, rfl⟩, ?_⟩ | refine ⟨_, rfl, ?_, rfl, ?_⟩ | refine ⟨_, (fun _ => rfl), rfl, ?_⟩ | refine ⟨(fun _ => rfl), ?_⟩ | refine ⟨rfl, ?_⟩ | refine Opt.a ?_ | fail)
  refine ⟨⟨5, [], 0⟩, [98, 32, 120, 10, 97, 10, 98, 32, 120], rfl, ?_⟩
  rw [did5]
  repeat' (first | exact True.intro | refine ⟨_, LeL.refl _, ?_⟩ | refine ⟨_, _, _, LeL.refl _, ?_⟩ | (refine fun (b : Bool) hb => ?_; cases b <;> (first | exact absurd hb (by decide) | exact Bool.noConfusion (show true = false from hb) | exact Bool.noConfusion (show false = true from hb) | skip)) | (refine fun (hl : _ ≤ MAXL) => ?_) | refine And.intro (a := I64 _) ?_ ?_ | refine And.intro (a := _ ≤ 140737488355328) ?_ ?_ | refine ⟨_, ⟨rfl, rfl⟩, ?_⟩ | refine ⟨_, And.intro (a := I64 _) ?_ ⟨rfl, rfl⟩, ?_⟩ | refine ⟨_, _, ⟨rfl, rfl⟩, ?_⟩ | refine ⟨_, (fun _ => ⟨rfl, rfl⟩), ?_⟩ | refine And.intro (a := chkPend _ _ _ _ _ _) ?_ ?_ | refine And.intro (a := chkPast _ _ _ _ _ _ _ _) ?_ ?_ | refine ⟨⟨rfl, rfl⟩, ?_⟩ | refine And.intro (And.intro rfl rfl) ?_ | refine ⟨True.intro, ?_⟩ | refine ⟨_, ⟨_, rfl, ?_, rfl, rfl, rfl⟩, ?_⟩ | refine ⟨_, rfl, ?_, rfl, ?_⟩ | refine ⟨_, (fun _ => rfl), rfl, ?_⟩ | refine ⟨(fun _ => rfl), ?_⟩ | refine ⟨rfl, ?_⟩ | refine Opt.a ?_ | fail)
  exact hK _ (congrArg V.bool (by decide))
end Gv
namespace Gv
variable [Glob] [Laid]
theorem small_ca : callable Tryd.prog 6 = true := by kernel_rfl
def small_S : Spec := fun args K => ∃ (l : List Bs), args = [.sl blV l] ∧ (∀ x ∈ l, x.length ≤ 140737488355328) ∧ K (.bool (decide (l.flatten.length ≤ 2000)))
noncomputable def small_lib : List (Nat × Spec) := []
noncomputable def small_fns : List (Nat × FnI) := []
noncomputable def small_prims : List (Nat × PSpec) := []
theorem small_E : EnvOK ⟨Tryd.prog, tys, small_lib, small_fns, small_prims, []⟩ := env_ok mixed0 tys0 .nil .nil .nil rfl
set_option maxHeartbeats 4000000 in
theorem small_ok : Pure Tryd.prog 6 small_S := by
  refine pure_by small_E 6 (fi := {fn := Tryd.f6, hooks := [], draws := []}) ⟨Tryd.func6, by kernel_rfl, by kernel_rfl⟩ ?_
  rintro _ K ⟨l, rfl, hz, hK⟩
  replace hK : ∀ r, r = .bool (decide (l.flatten.length ≤ 2000)) → K r := fun r h => h ▸ hK
  have hle0 : ∀ k, (l.take k).flatten.length ≤ l.flatten.length := fun k => by
    have h1 := congrArg (fun x => x.flatten.length) (List.take_append_drop k l)
    have h2 : (l.take k ++ l.drop k).flatten.length = (l.take k).flatten.length + (l.drop k).flatten.length := by rw [List.flatten_append, List.length_append]
    have h3 : (l.take k ++ l.drop k).flatten.length = l.flatten.length := h1
    omega
  repeat' (first | exact True.intro | refine ⟨_, LeL.refl _, ?_⟩ | refine ⟨_, _, _, LeL.refl _, ?_⟩ | (refine fun (b : Bool) hb => ?_; cases b <;> (first | exact absurd hb (by decide) | exact Bool.noConfusion (show true = false from hb) | exact Bool.noConfusion (show false = true from hb) | skip)) | (refine fun (hl : _ ≤ MAXL) => ?_) | refine And.intro (a := I64 _) ?_ ?_ | refine And.intro (a := _ ≤ 140737488355328) ?_ ?_ | refine ⟨_, ⟨rfl, rfl⟩, ?_⟩ | refine ⟨_, And.intro (a := I64 _) ?_ ⟨rfl, rfl⟩, ?_⟩ | refine ⟨_, _, ⟨rfl, rfl⟩, ?_⟩ | refine ⟨_, (fun _ => ⟨rfl, rfl⟩), ?_⟩ | refine And.intro (a := chkPend _ _ _ _ _ _) ?_ ?_ | refine And.intro (a := chkPast _ _ _ _ _ _ _ _) ?_ ?_ | refine ⟨⟨rfl, rfl⟩, ?_⟩ | refine And.intro (And.intro rfl rfl) ?_ | refine ⟨True.intro, ?_⟩ | refine ⟨_, ⟨_, rfl, ?_, rfl, rfl, rfl⟩, ?_⟩ | refine ⟨_, rfl, ?_, rfl, ?_⟩ | refine ⟨_, (fun _ => rfl), rfl, ?_⟩ | refine ⟨(fun _ => rfl), ?_⟩ | refine ⟨rfl, ?_⟩ | refine Opt.a ?_ | fail)
  conv => whnf
  refine loop_live [6, 7] (σ := Nat × Int) (fun s => [(8, .int .i64 s.1), (3, .int .i64 s.2)]) (fun i => []) (fun s => s.2 = (((l.take s.1).flatten.length : Nat) : Int) ∧ s.1 ≤ l.length ∧ (l.take s.1).flatten.length ≤ 2000) (fun s => l.length - s.1) (0, 0) ?_
  conv => whnf
  refine ⟨(by (refine wk_auto ?_; refine Sel4.mk rfl rfl ?_ ?_ <;> (repeat' (first | exact True.intro | exact rfl | exact Or.inl rfl | exact Or.inr rfl | refine And.intro ?_ ?_ | fail)))), ⟨by simp, Nat.zero_le _, by simp⟩, fun s hs => ?_⟩
  obtain ⟨i, n⟩ := s
  obtain ⟨hn, hi1, hi2⟩ := hs
  dsimp only at hn hi1 hi2
  repeat' (first | exact True.intro | refine ⟨_, LeL.refl _, ?_⟩ | refine ⟨_, _, _, LeL.refl _, ?_⟩ | (refine fun (b : Bool) hb => ?_; cases b <;> (first | exact absurd hb (by decide) | exact Bool.noConfusion (show true = false from hb) | exact Bool.noConfusion (show false = true from hb) | skip)) | (refine fun (hl : _ ≤ MAXL) => ?_) | refine And.intro (a := I64 _) ?_ ?_ | refine And.intro (a := _ ≤ 140737488355328) ?_ ?_ | refine ⟨_, ⟨rfl, rfl⟩, ?_⟩ | refine ⟨_, And.intro (a := I64 _) ?_ ⟨rfl, rfl⟩, ?_⟩ | refine ⟨_, _, ⟨rfl, rfl⟩, ?_⟩ | refine ⟨_, (fun _ => ⟨rfl, rfl⟩), ?_⟩ | refine And.intro (a := chkPend _ _ _ _ _ _) ?_ ?_ | refine And.intro (a := chkPast _ _ _ _ _ _ _ _) ?_ ?_ | refine ⟨⟨rfl, rfl⟩, ?_⟩ | refine And.intro (And.intro rfl rfl) ?_ | refine ⟨True.intro, ?_⟩ | refine ⟨_, ⟨_, rfl, ?_, rfl, rfl, rfl⟩, ?_⟩ | refine ⟨_, rfl, ?_, rfl, ?_⟩ | refine ⟨_, (fun _ => rfl), rfl, ?_⟩ | refine ⟨(fun _ => rfl), ?_⟩ | refine ⟨rfl, ?_⟩ | refine Opt.a ?_ | fail)
  · have : i = l.length := by grind
    rw [this, List.take_length] at hi2
    conv => whnf
    refine hK _ ?_
    rw [decide_eq_true hi2]
  all_goals have hlt : i < l.length := by grind
  · exact hlt
  all_goals have hx : l[i].length ≤ MAXL := by assumption
  all_goals unfold MAXL at hx
  all_goals have hnx : (l.take (i + 1)).flatten.length = (l.take i).flatten.length + l[i].length := by rw [List.take_succ_eq_append_getElem hlt, List.flatten_append, List.length_append]; simp only [List.flatten_cons, List.flatten_nil, List.append_nil]
  · have := hz _ (List.getElem_mem hlt)
    unfold I64
    dsimp only
    omega
  all_goals have hlm : l.length ≤ MAXL := by assumption
  all_goals unfold MAXL at hlm
  all_goals dsimp only at *
  · have : ¬ (2000 : Int) < n + (l[i].length : Int) := of_decide_eq_false (by assumption)
    unfold I64
    omega
  · have : ¬ (2000 : Int) < n + (l[i].length : Int) := of_decide_eq_false (by assumption)
    refine ⟨(i + 1, n + (l[i].length : Int)), (by (refine wk_auto ?_; refine Sel4.mk rfl rfl ?_ ?_ <;> (repeat' (first | exact True.intro | exact rfl | exact Or.inl rfl | exact Or.inr rfl | refine And.intro ?_ ?_ | fail)))), ⟨?_, hlt, ?_⟩, ?_⟩
    · dsimp only
      omega
    · dsimp only
      omega
    · show l.length - (i + 1) < l.length - i
      omega
  · have : (2000 : Int) < n + (l[i].length : Int) := of_decide_eq_true (by assumption)
    conv => whnf
    refine hK _ ?_
    have := hle0 (i + 1)
    rw [decide_eq_false (by omega)]
end Gv
namespace Gv
variable [Glob] [Laid]
theorem equalB_ca : callable Tryd.prog 8 = true := by kernel_rfl
def equalB_S : Spec := fun args K => ∃ a b : List UInt8, args = [.sl byteV a, .sl byteV b] ∧ K (.bool (decide (a = b)))
noncomputable def equalB_lib : List (Nat × Spec) := []
noncomputable def equalB_fns : List (Nat × FnI) := []
noncomputable def equalB_prims : List (Nat × PSpec) := []
theorem equalB_E : EnvOK ⟨Tryd.prog, tys, equalB_lib, equalB_fns, equalB_prims, []⟩ := env_ok mixed0 tys0 .nil .nil .nil rfl
set_option maxHeartbeats 4000000 in
theorem equalB_ok : Pure Tryd.prog 8 equalB_S := by
  refine pure_by equalB_E 6 (fi := {fn := Tryd.f8, hooks := [], draws := [(6, [0, 0, 3, 7, 0, 0, 48, 112, 255])]}) ⟨Tryd.func8, by kernel_rfl, by kernel_rfl⟩ ?_
  rintro _ K ⟨x, y, rfl, hK⟩
  replace hK : ∀ r, r = .bool (decide (x = y)) → K r := fun r h => h ▸ hK
  repeat' (first | exact True.intro | refine ⟨_, LeL.refl _, ?_⟩ | refine ⟨_, _, _, LeL.refl _, ?_⟩ | (refine fun (b : Bool) hb => ?_; cases b <;> (first | exact absurd hb (by decide) | exact Bool.noConfusion (show true = false from hb) | exact Bool.noConfusion (show false = true from hb) | skip)) | (refine fun (hl : _ ≤ MAXL) => ?_) | refine And.intro (a := I64 _) ?_ ?_ | refine And.intro (a := _ ≤ 140737488355328) ?_ ?_ | refine ⟨_, ⟨rfl, rfl⟩, ?_⟩ | refine ⟨_, And.intro (a := I64 _) ?_ ⟨rfl, rfl⟩, ?_⟩ | refine ⟨_, _, ⟨rfl, rfl⟩, ?_⟩ | refine ⟨_, (fun _ => ⟨rfl, rfl⟩), ?_⟩ | refine And.intro (a := chkPend _ _ _ _ _ _) ?_ ?_ | refine And.intro (a := chkPast _ _ _ _ _ _ _ _) ?_ ?_ | refine ⟨⟨rfl, rfl⟩, ?_⟩ | refine And.intro (And.intro rfl rfl) ?_ | refine ⟨True.intro, ?_⟩ | refine ⟨_, ⟨_, rfl, ?_, rfl, rfl, rfl⟩, ?_⟩ | refine ⟨_, rfl, ?_, rfl, ?_⟩ | refine ⟨_, (fun _ => rfl), rfl, ?_⟩ | refine ⟨(fun _ => rfl), ?_⟩ | refine ⟨rfl, ?_⟩ | refine Opt.a ?_ | fail)
  rotate_left
  · refine hK _ ?_
    congr 1
    grind
  conv => whnf
  refine loop_intro (σ := Nat) (fun i => [(0, .sl byteV x), (1, .sl byteV y), (12, .int .i64 x.length), (13, .int .i64 i), (4, .lit false)]) (fun _ => []) (fun i => i ≤ x.length ∧ x.take i = y.take i) (fun i => x.length - i) 0 (wk_sel [] rfl rfl trivial ?_) ⟨Nat.zero_le _, rfl⟩ ?_
  · (repeat' (first | exact True.intro | exact rfl | exact Or.inl rfl | exact Or.inr rfl | refine And.intro ?_ ?_ | fail))
  intro i ⟨hi, hI⟩
  repeat' (first | exact True.intro | refine ⟨_, LeL.refl _, ?_⟩ | refine ⟨_, _, _, LeL.refl _, ?_⟩ | (refine fun (b : Bool) hb => ?_; cases b <;> (first | exact absurd hb (by decide) | exact Bool.noConfusion (show true = false from hb) | exact Bool.noConfusion (show false = true from hb) | skip)) | (refine fun (hl : _ ≤ MAXL) => ?_) | refine And.intro (a := I64 _) ?_ ?_ | refine And.intro (a := _ ≤ 140737488355328) ?_ ?_ | refine ⟨_, ⟨rfl, rfl⟩, ?_⟩ | refine ⟨_, And.intro (a := I64 _) ?_ ⟨rfl, rfl⟩, ?_⟩ | refine ⟨_, _, ⟨rfl, rfl⟩, ?_⟩ | refine ⟨_, (fun _ => ⟨rfl, rfl⟩), ?_⟩ | refine And.intro (a := chkPend _ _ _ _ _ _) ?_ ?_ | refine And.intro (a := chkPast _ _ _ _ _ _ _ _) ?_ ?_ | refine ⟨⟨rfl, rfl⟩, ?_⟩ | refine And.intro (And.intro rfl rfl) ?_ | refine ⟨True.intro, ?_⟩ | refine ⟨_, ⟨_, rfl, ?_, rfl, rfl, rfl⟩, ?_⟩ | refine ⟨_, rfl, ?_, rfl, ?_⟩ | refine ⟨_, (fun _ => rfl), rfl, ?_⟩ | refine ⟨(fun _ => rfl), ?_⟩ | refine ⟨rfl, ?_⟩ | refine Opt.a ?_ | fail)
  · refine hK _ ?_
    congr 1
    have e : x = y := by
      have h1 : x.take i = x := List.take_of_length_le (by grind)
      have h2 : y.take i = y := List.take_of_length_le (by grind)
      rw [← h1, ← h2, hI]
    simp [e]
  · grind
  · grind
  · unfold I64; grind
  · refine ⟨i + 1, ?_, ⟨?_, ?_⟩, ?_⟩
    · refine wk_sel [] rfl rfl trivial ?_
      (repeat' (first | exact True.intro | exact rfl | exact Or.inl rfl | exact Or.inr rfl | refine And.intro ?_ ?_ | fail))
    · grind
    · have g1 : i < x.length := by grind
      have g2 : i < y.length := by grind
      rw [List.take_succ_eq_append_getElem g1, List.take_succ_eq_append_getElem g2, hI]
      have e : x[i].toNat = y[i].toNat := by grind
      rw [UInt8.toNat_inj.1 e]
    · grind
  · refine hK _ ?_
    congr 1
    grind
end Gv
namespace Gv
variable [Glob] [Laid]
theorem linesOfR_ca : callable Tryd.prog 20 = true := by kernel_rfl
def linesOfR_S : Spec := fun args K => ∃ (b : Bs), args = [.sl byteV b] ∧ b.length ≤ 1000000 ∧ K (.sl strV (linesOf b))
noncomputable def linesOfR_lib : List (Nat × Spec) := [(32, splitS_S)]
noncomputable def linesOfR_fns : List (Nat × FnI) := []
noncomputable def linesOfR_prims : List (Nat × PSpec) := []
theorem linesOfR_E : EnvOK ⟨Tryd.prog, tys, linesOfR_lib, linesOfR_fns, linesOfR_prims, []⟩ := env_ok mixed0 tys0 (.cons splitS_ca splitS_ok .nil) .nil .nil rfl
set_option maxHeartbeats 4000000 in
theorem linesOfR_ok : Pure Tryd.prog 20 linesOfR_S := by
  refine pure_by linesOfR_E 6 (fi := {fn := Tryd.f20, hooks := [], draws := []}) ⟨Tryd.func20, by kernel_rfl, by kernel_rfl⟩ ?_
  rintro _ K ⟨b, rfl, hz, hK⟩
  replace hK : ∀ r, r = .sl strV (linesOf b) → K r := fun r h => h ▸ hK
  have hsl := split_lines b
  have hsn : 0 < (Lib.split b [10]).length := List.length_pos_iff.2 (split_ne b [10])
  obtain ⟨L, hL⟩ : ∃ L, Lib.split b [10] = L := ⟨_, rfl⟩
  refine ⟨b, fun _ => rfl, rfl, ?_⟩
  refine ⟨b, [10], rfl, ⟨by omega, by decide⟩, ?_⟩
  rw [hL] at hsl hsn ⊢
  repeat' (first | exact True.intro | refine ⟨_, LeL.refl _, ?_⟩ | refine ⟨_, _, _, LeL.refl _, ?_⟩ | (refine fun (b : Bool) hb => ?_; cases b <;> (first | exact absurd hb (by decide) | exact Bool.noConfusion (show true = false from hb) | exact Bool.noConfusion (show false = true from hb) | skip)) | (refine fun (hl : _ ≤ MAXL) => ?_) | refine And.intro (a := I64 _) ?_ ?_ | refine And.intro (a := _ ≤ 140737488355328) ?_ ?_ | refine ⟨_, ⟨rfl, rfl⟩, ?_⟩ | refine ⟨_, And.intro (a := I64 _) ?_ ⟨rfl, rfl⟩, ?_⟩ | refine ⟨_, _, ⟨rfl, rfl⟩, ?_⟩ | refine ⟨_, (fun _ => ⟨rfl, rfl⟩), ?_⟩ | refine And.intro (a := chkPend _ _ _ _ _ _) ?_ ?_ | refine And.intro (a := chkPast _ _ _ _ _ _ _ _) ?_ ?_ | refine ⟨⟨rfl, rfl⟩, ?_⟩ | refine And.intro (And.intro rfl rfl) ?_ | refine ⟨True.intro, ?_⟩ | refine ⟨_, ⟨_, rfl, ?_, rfl, rfl, rfl⟩, ?_⟩ | refine ⟨_, rfl, ?_, rfl, ?_⟩ | refine ⟨_, (fun _ => rfl), rfl, ?_⟩ | refine ⟨(fun _ => rfl), ?_⟩ | refine ⟨rfl, ?_⟩ | refine Opt.a ?_ | fail)
  · (first | omega | (unfold I64; omega) | (simp only [List.length_append, List.length_map, List.length_cons, List.length_nil, Nat.mul_one, Int.ofNat_eq_natCast] at *; omega) | (dsimp only at *; omega) | (unfold I64; dsimp only at *; omega) | (unfold I64; grind) | grind)
  refine ⟨L.length - 1, by omega, by omega, ?_⟩
  repeat' (first | exact True.intro | refine ⟨_, LeL.refl _, ?_⟩ | refine ⟨_, _, _, LeL.refl _, ?_⟩ | (refine fun (b : Bool) hb => ?_; cases b <;> (first | exact absurd hb (by decide) | exact Bool.noConfusion (show true = false from hb) | exact Bool.noConfusion (show false = true from hb) | skip)) | (refine fun (hl : _ ≤ MAXL) => ?_) | refine And.intro (a := I64 _) ?_ ?_ | refine And.intro (a := _ ≤ 140737488355328) ?_ ?_ | refine ⟨_, ⟨rfl, rfl⟩, ?_⟩ | refine ⟨_, And.intro (a := I64 _) ?_ ⟨rfl, rfl⟩, ?_⟩ | refine ⟨_, _, ⟨rfl, rfl⟩, ?_⟩ | refine ⟨_, (fun _ => ⟨rfl, rfl⟩), ?_⟩ | refine And.intro (a := chkPend _ _ _ _ _ _) ?_ ?_ | refine And.intro (a := chkPast _ _ _ _ _ _ _ _) ?_ ?_ | refine ⟨⟨rfl, rfl⟩, ?_⟩ | refine And.intro (And.intro rfl rfl) ?_ | refine ⟨True.intro, ?_⟩ | refine ⟨_, ⟨_, rfl, ?_, rfl, rfl, rfl⟩, ?_⟩ | refine ⟨_, rfl, ?_, rfl, ?_⟩ | refine ⟨_, (fun _ => rfl), rfl, ?_⟩ | refine ⟨(fun _ => rfl), ?_⟩ | refine ⟨rfl, ?_⟩ | refine Opt.a ?_ | fail)
  · have h : ¬ L[L.length - 1] = [] := of_decide_eq_false (by assumption)
    conv => whnf
    refine hK _ ?_
    rw [← hsl]
    unfold dropE
    rw [if_neg (by rw [List.getLast?_eq_getElem?, List.getElem?_eq_getElem (by omega)]; simpa using h)]
  · (first | omega | (unfold I64; omega) | (simp only [List.length_append, List.length_map, List.length_cons, List.length_nil, Nat.mul_one, Int.ofNat_eq_natCast] at *; omega) | (dsimp only at *; omega) | (unfold I64; dsimp only at *; omega) | (unfold I64; grind) | grind)
  have h : L[L.length - 1] = [] := of_decide_eq_true (by assumption)
  refine ⟨L.length - 1, by omega, by omega, ?_⟩
  repeat' (first | exact True.intro | refine ⟨_, LeL.refl _, ?_⟩ | refine ⟨_, _, _, LeL.refl _, ?_⟩ | (refine fun (b : Bool) hb => ?_; cases b <;> (first | exact absurd hb (by decide) | exact Bool.noConfusion (show true = false from hb) | exact Bool.noConfusion (show false = true from hb) | skip)) | (refine fun (hl : _ ≤ MAXL) => ?_) | refine And.intro (a := I64 _) ?_ ?_ | refine And.intro (a := _ ≤ 140737488355328) ?_ ?_ | refine ⟨_, ⟨rfl, rfl⟩, ?_⟩ | refine ⟨_, And.intro (a := I64 _) ?_ ⟨rfl, rfl⟩, ?_⟩ | refine ⟨_, _, ⟨rfl, rfl⟩, ?_⟩ | refine ⟨_, (fun _ => ⟨rfl, rfl⟩), ?_⟩ | refine And.intro (a := chkPend _ _ _ _ _ _) ?_ ?_ | refine And.intro (a := chkPast _ _ _ _ _ _ _ _) ?_ ?_ | refine ⟨⟨rfl, rfl⟩, ?_⟩ | refine And.intro (And.intro rfl rfl) ?_ | refine ⟨True.intro, ?_⟩ | refine ⟨_, ⟨_, rfl, ?_, rfl, rfl, rfl⟩, ?_⟩ | refine ⟨_, rfl, ?_, rfl, ?_⟩ | refine ⟨_, (fun _ => rfl), rfl, ?_⟩ | refine ⟨(fun _ => rfl), ?_⟩ | refine ⟨rfl, ?_⟩ | refine Opt.a ?_ | fail)
  refine hK _ ?_
  rw [← hsl]
  unfold dropE
  rw [if_pos (by rw [List.getLast?_eq_getElem?, List.getElem?_eq_getElem (by omega), h]), List.dropLast_eq_take]
end Gv
namespace Gv
variable [Glob] [Laid]
theorem joinS_ca : callable Tryd.prog 31 = true := by kernel_rfl
def joinS_S : Spec := fun args K => ∃ (l : List Bs) (sep : Bs), args = [.sl strV l, .str sep] ∧ (l.length ≤ 140737488355328 ∧ (Lib.join l sep).length ≤ 140737488355328) ∧ K (.str (Lib.join l sep))
set_option maxHeartbeats 4000000 in
theorem joinS_ok : Pure Tryd.prog 31 joinS_S := by
  intro w m args us K hm hg hv hT
  obtain ⟨l, sep, rfl, ⟨h1, h2⟩, hK⟩ := hT
  obtain ⟨a, b, rfl, ha, hb⟩ := args2 hv.1 hv.2
  obtain ⟨p, c, rfl, hlc, hc, hp⟩ := strs_open ha hm
  obtain ⟨rfl, -⟩ := vr_str hb
  by_cases hl : l = []
  · subst hl
    refine (Tryd.strings_Join_none p c (ba sep) w).mono fun e w' ⟨he, hw⟩ => ?_
    subst hw
    exact ⟨_, _, he, Bel.refl _ _, hK, .str (s := []) (Nat.zero_le _)⟩
  · obtain ⟨bk, o, rfl, hbk, hx, hx2⟩ := hp hl
    have e1 : (l.map ba).map (fun x => x.data.toList) = l := by
      rw [List.map_map]
      conv => rhs; rw [← List.map_id l]
      rfl
    have e2 : (l.map ba).length = l.length := List.length_map ..
    have := Tryd.strings_Join bk o c (l.map ba) (ba sep) w (fun j x hj => by
      rw [List.getElem?_map] at hj
      obtain ⟨y, hy, rfl⟩ := Option.map_eq_some_iff.1 hj
      exact hx j y hy) hbk (by rw [e2]; exact h1) (by rw [e2]; exact hlc) (by rw [e1]; exact h2)
    rw [e1, e2] at this
    refine this.mono fun e w' ⟨he, hw⟩ => ?_
    exact ⟨_, _, he, Bel.of_below hw, hK, .str (by have := h2; unfold MAXL; show (Lib.join l sep).length ≤ _; omega)⟩
end Gv
namespace Gv
variable [Glob] [Laid]
theorem bytesOfR_ca : callable Tryd.prog 19 = true := by kernel_rfl
def bytesOfR_S : Spec := fun args K => ∃ (l : List Bs), args = [.sl strV l] ∧ (put l).length ≤ 1000000 ∧ K (.sl byteV (put l))
noncomputable def bytesOfR_lib : List (Nat × Spec) := [(31, joinS_S)]
noncomputable def bytesOfR_fns : List (Nat × FnI) := []
noncomputable def bytesOfR_prims : List (Nat × PSpec) := []
theorem bytesOfR_E : EnvOK ⟨Tryd.prog, tys, bytesOfR_lib, bytesOfR_fns, bytesOfR_prims, []⟩ := env_ok mixed0 tys0 (.cons joinS_ca joinS_ok .nil) .nil .nil rfl
set_option maxHeartbeats 4000000 in
theorem bytesOfR_ok : Pure Tryd.prog 19 bytesOfR_S := by
  refine pure_by bytesOfR_E 6 (fi := {fn := Tryd.f19, hooks := [], draws := []}) ⟨Tryd.func19, by kernel_rfl, by kernel_rfl⟩ ?_
  rintro _ K ⟨l, rfl, hz, hK⟩
  replace hK : ∀ r, r = .sl byteV (put l) → K r := fun r h => h ▸ hK
  have hj := join_put l
  have hjl : (Lib.join l [10]).length ≤ (put l).length := by
    rw [← hj]
    split
    · simp
    · exact Nat.le_refl _
  have hll := put_len (l := l) (n := 1000000) hz
  refine ⟨l, [10], rfl, ⟨by omega, by omega⟩, ?_⟩
  repeat' (first | exact True.intro | refine ⟨_, LeL.refl _, ?_⟩ | refine ⟨_, _, _, LeL.refl _, ?_⟩ | (refine fun (b : Bool) hb => ?_; cases b <;> (first | exact absurd hb (by decide) | exact Bool.noConfusion (show true = false from hb) | exact Bool.noConfusion (show false = true from hb) | skip)) | (refine fun (hl : _ ≤ MAXL) => ?_) | refine And.intro (a := I64 _) ?_ ?_ | refine And.intro (a := _ ≤ 140737488355328) ?_ ?_ | refine ⟨_, ⟨rfl, rfl⟩, ?_⟩ | refine ⟨_, And.intro (a := I64 _) ?_ ⟨rfl, rfl⟩, ?_⟩ | refine ⟨_, _, ⟨rfl, rfl⟩, ?_⟩ | refine ⟨_, (fun _ => ⟨rfl, rfl⟩), ?_⟩ | refine And.intro (a := chkPend _ _ _ _ _ _) ?_ ?_ | refine And.intro (a := chkPast _ _ _ _ _ _ _ _) ?_ ?_ | refine ⟨⟨rfl, rfl⟩, ?_⟩ | refine And.intro (And.intro rfl rfl) ?_ | refine ⟨True.intro, ?_⟩ | refine ⟨_, ⟨_, rfl, ?_, rfl, rfl, rfl⟩, ?_⟩ | refine ⟨_, rfl, ?_, rfl, ?_⟩ | refine ⟨_, (fun _ => rfl), rfl, ?_⟩ | refine ⟨(fun _ => rfl), ?_⟩ | refine ⟨rfl, ?_⟩ | refine Opt.a ?_ | fail)
  · omega
  · conv => whnf
    refine hK _ ?_
    rw [← hj, if_neg (by have := of_decide_eq_false (by assumption : decide ((0 : Int) < (l.length : Int)) = false); omega)]
  all_goals have hp : 0 < l.length := by have := of_decide_eq_true (by assumption : decide ((0 : Int) < (l.length : Int)) = true); omega
  rw [if_pos hp] at hj
  conv => whnf
  refine ⟨by show (Lib.join l [10]).length + 1 ≤ MAXL; unfold MAXL; omega, ?_⟩
  repeat' (first | exact True.intro | refine ⟨_, LeL.refl _, ?_⟩ | refine ⟨_, _, _, LeL.refl _, ?_⟩ | (refine fun (b : Bool) hb => ?_; cases b <;> (first | exact absurd hb (by decide) | exact Bool.noConfusion (show true = false from hb) | exact Bool.noConfusion (show false = true from hb) | skip)) | (refine fun (hl : _ ≤ MAXL) => ?_) | refine And.intro (a := I64 _) ?_ ?_ | refine And.intro (a := _ ≤ 140737488355328) ?_ ?_ | refine ⟨_, ⟨rfl, rfl⟩, ?_⟩ | refine ⟨_, And.intro (a := I64 _) ?_ ⟨rfl, rfl⟩, ?_⟩ | refine ⟨_, _, ⟨rfl, rfl⟩, ?_⟩ | refine ⟨_, (fun _ => ⟨rfl, rfl⟩), ?_⟩ | refine And.intro (a := chkPend _ _ _ _ _ _) ?_ ?_ | refine And.intro (a := chkPast _ _ _ _ _ _ _ _) ?_ ?_ | refine ⟨⟨rfl, rfl⟩, ?_⟩ | refine And.intro (And.intro rfl rfl) ?_ | refine ⟨True.intro, ?_⟩ | refine ⟨_, ⟨_, rfl, ?_, rfl, rfl, rfl⟩, ?_⟩ | refine ⟨_, rfl, ?_, rfl, ?_⟩ | refine ⟨_, (fun _ => rfl), rfl, ?_⟩ | refine ⟨(fun _ => rfl), ?_⟩ | refine ⟨rfl, ?_⟩ | refine Opt.a ?_ | fail)
  · show (Lib.join l [10] ++ [10]).length ≤ 140737488355328
    rw [hj]
    omega
  conv => whnf
  refine hK _ ?_
  show V.sl byteV (Lib.join l [10] ++ [10]) = _
  rw [hj]
end Gv
namespace Gv
variable [Glob] [Laid]
theorem wholeR_ca : callable Tryd.prog 9 = true := by kernel_rfl
def wholeR_S : Spec := fun args K => ∃ (b : Bs), args = [.sl byteV b] ∧ b.length ≤ 100000 ∧ K (.sl byteV (whole b))
noncomputable def wholeR_lib : List (Nat × Spec) := [(20, linesOfR_S), (19, bytesOfR_S)]
noncomputable def wholeR_fns : List (Nat × FnI) := []
noncomputable def wholeR_prims : List (Nat × PSpec) := []
theorem wholeR_E : EnvOK ⟨Tryd.prog, tys, wholeR_lib, wholeR_fns, wholeR_prims, []⟩ := env_ok mixed0 tys0 (.cons linesOfR_ca linesOfR_ok (.cons bytesOfR_ca bytesOfR_ok .nil)) .nil .nil rfl
set_option maxHeartbeats 4000000 in
theorem wholeR_ok : Pure Tryd.prog 9 wholeR_S := by
  refine pure_by wholeR_E 6 (fi := {fn := Tryd.f9, hooks := [], draws := []}) ⟨Tryd.func9, by kernel_rfl, by kernel_rfl⟩ ?_
  rintro _ K ⟨b, rfl, hz, hK⟩
  replace hK : ∀ r, r = .sl byteV (whole b) → K r := fun r h => h ▸ hK
  have hw := whole_len b
  unfold whole at hw
  repeat' (first | exact True.intro | refine ⟨_, LeL.refl _, ?_⟩ | refine ⟨_, _, _, LeL.refl _, ?_⟩ | (refine fun (b : Bool) hb => ?_; cases b <;> (first | exact absurd hb (by decide) | exact Bool.noConfusion (show true = false from hb) | exact Bool.noConfusion (show false = true from hb) | skip)) | (refine fun (hl : _ ≤ MAXL) => ?_) | refine And.intro (a := I64 _) ?_ ?_ | refine And.intro (a := _ ≤ 140737488355328) ?_ ?_ | refine ⟨_, ⟨rfl, rfl⟩, ?_⟩ | refine ⟨_, And.intro (a := I64 _) ?_ ⟨rfl, rfl⟩, ?_⟩ | refine ⟨_, _, ⟨rfl, rfl⟩, ?_⟩ | refine ⟨_, (fun _ => ⟨rfl, rfl⟩), ?_⟩ | refine And.intro (a := chkPend _ _ _ _ _ _) ?_ ?_ | refine And.intro (a := chkPast _ _ _ _ _ _ _ _) ?_ ?_ | refine ⟨⟨rfl, rfl⟩, ?_⟩ | refine And.intro (And.intro rfl rfl) ?_ | refine ⟨True.intro, ?_⟩ | refine ⟨_, ⟨_, rfl, ?_, rfl, rfl, rfl⟩, ?_⟩ | refine ⟨_, rfl, ?_, rfl, ?_⟩ | refine ⟨_, (fun _ => rfl), rfl, ?_⟩ | refine ⟨(fun _ => rfl), ?_⟩ | refine ⟨rfl, ?_⟩ | refine Opt.a ?_ | fail)
  refine ⟨b, rfl, by omega, ?_⟩
  repeat' (first | exact True.intro | refine ⟨_, LeL.refl _, ?_⟩ | refine ⟨_, _, _, LeL.refl _, ?_⟩ | (refine fun (b : Bool) hb => ?_; cases b <;> (first | exact absurd hb (by decide) | exact Bool.noConfusion (show true = false from hb) | exact Bool.noConfusion (show false = true from hb) | skip)) | (refine fun (hl : _ ≤ MAXL) => ?_) | refine And.intro (a := I64 _) ?_ ?_ | refine And.intro (a := _ ≤ 140737488355328) ?_ ?_ | refine ⟨_, ⟨rfl, rfl⟩, ?_⟩ | refine ⟨_, And.intro (a := I64 _) ?_ ⟨rfl, rfl⟩, ?_⟩ | refine ⟨_, _, ⟨rfl, rfl⟩, ?_⟩ | refine ⟨_, (fun _ => ⟨rfl, rfl⟩), ?_⟩ | refine And.intro (a := chkPend _ _ _ _ _ _) ?_ ?_ | refine And.intro (a := chkPast _ _ _ _ _ _ _ _) ?_ ?_ | refine ⟨⟨rfl, rfl⟩, ?_⟩ | refine And.intro (And.intro rfl rfl) ?_ | refine ⟨True.intro, ?_⟩ | refine ⟨_, ⟨_, rfl, ?_, rfl, rfl, rfl⟩, ?_⟩ | refine ⟨_, rfl, ?_, rfl, ?_⟩ | refine ⟨_, (fun _ => rfl), rfl, ?_⟩ | refine ⟨(fun _ => rfl), ?_⟩ | refine ⟨rfl, ?_⟩ | refine Opt.a ?_ | fail)
  refine ⟨linesOf b, rfl, by omega, ?_⟩
  repeat' (first | exact True.intro | refine ⟨_, LeL.refl _, ?_⟩ | refine ⟨_, _, _, LeL.refl _, ?_⟩ | (refine fun (b : Bool) hb => ?_; cases b <;> (first | exact absurd hb (by decide) | exact Bool.noConfusion (show true = false from hb) | exact Bool.noConfusion (show false = true from hb) | skip)) | (refine fun (hl : _ ≤ MAXL) => ?_) | refine And.intro (a := I64 _) ?_ ?_ | refine And.intro (a := _ ≤ 140737488355328) ?_ ?_ | refine ⟨_, ⟨rfl, rfl⟩, ?_⟩ | refine ⟨_, And.intro (a := I64 _) ?_ ⟨rfl, rfl⟩, ?_⟩ | refine ⟨_, _, ⟨rfl, rfl⟩, ?_⟩ | refine ⟨_, (fun _ => ⟨rfl, rfl⟩), ?_⟩ | refine And.intro (a := chkPend _ _ _ _ _ _) ?_ ?_ | refine And.intro (a := chkPast _ _ _ _ _ _ _ _) ?_ ?_ | refine ⟨⟨rfl, rfl⟩, ?_⟩ | refine And.intro (And.intro rfl rfl) ?_ | refine ⟨True.intro, ?_⟩ | refine ⟨_, ⟨_, rfl, ?_, rfl, rfl, rfl⟩, ?_⟩ | refine ⟨_, rfl, ?_, rfl, ?_⟩ | refine ⟨_, (fun _ => rfl), rfl, ?_⟩ | refine ⟨(fun _ => rfl), ?_⟩ | refine ⟨rfl, ?_⟩ | refine Opt.a ?_ | fail)
  exact hK _ rfl
end Gv
namespace Gv
variable [Glob] [Laid]
theorem atI_ca : callable Tryd.prog 12 = true := by kernel_rfl
def atI_S : Spec := fun args K => ∃ (k n : Int), args = [.int .i64 k, .int .i64 n] ∧ (I64 k ∧ 1 ≤ n ∧ n ≤ 1000000) ∧ K (.int .i64 (k % n))
noncomputable def atI_lib : List (Nat × Spec) := []
noncomputable def atI_fns : List (Nat × FnI) := []
noncomputable def atI_prims : List (Nat × PSpec) := []
theorem atI_E : EnvOK ⟨Tryd.prog, tys, atI_lib, atI_fns, atI_prims, []⟩ := env_ok mixed0 tys0 .nil .nil .nil rfl
set_option maxHeartbeats 4000000 in
theorem atI_ok : Pure Tryd.prog 12 atI_S := by
  refine pure_by atI_E 6 (fi := {fn := Tryd.f12, hooks := [], draws := []}) ⟨Tryd.func12, by kernel_rfl, by kernel_rfl⟩ ?_
  rintro _ K ⟨k, n, rfl, ⟨hk, h1, h2⟩, hK⟩
  replace hK : ∀ r, r = .int .i64 (k % n) → K r := fun r h => h ▸ hK
  have h3 := at_eq k n h1
  have h4 := Int.emod_lt_of_pos k (show 0 < n by omega)
  have h5 := Int.emod_nonneg k (show n ≠ 0 by omega)
  refine ⟨by omega, ?_⟩
  repeat' (first | exact True.intro | refine ⟨_, LeL.refl _, ?_⟩ | refine ⟨_, _, _, LeL.refl _, ?_⟩ | (refine fun (b : Bool) hb => ?_; cases b <;> (first | exact absurd hb (by decide) | exact Bool.noConfusion (show true = false from hb) | exact Bool.noConfusion (show false = true from hb) | skip)) | (refine fun (hl : _ ≤ MAXL) => ?_) | refine And.intro (a := I64 _) ?_ ?_ | refine And.intro (a := _ ≤ 140737488355328) ?_ ?_ | refine ⟨_, ⟨rfl, rfl⟩, ?_⟩ | refine ⟨_, And.intro (a := I64 _) ?_ ⟨rfl, rfl⟩, ?_⟩ | refine ⟨_, _, ⟨rfl, rfl⟩, ?_⟩ | refine ⟨_, (fun _ => ⟨rfl, rfl⟩), ?_⟩ | refine And.intro (a := chkPend _ _ _ _ _ _) ?_ ?_ | refine And.intro (a := chkPast _ _ _ _ _ _ _ _) ?_ ?_ | refine ⟨⟨rfl, rfl⟩, ?_⟩ | refine And.intro (And.intro rfl rfl) ?_ | refine ⟨True.intro, ?_⟩ | refine ⟨_, ⟨_, rfl, ?_, rfl, rfl, rfl⟩, ?_⟩ | refine ⟨_, rfl, ?_, rfl, ?_⟩ | refine ⟨_, (fun _ => rfl), rfl, ?_⟩ | refine ⟨(fun _ => rfl), ?_⟩ | refine ⟨rfl, ?_⟩ | refine Opt.a ?_ | fail)
  · have h : ¬ k.tmod n < 0 := of_decide_eq_false (by assumption)
    rw [if_neg h] at h3
    rw [h3]
    exact hK _ rfl
  · have h : k.tmod n < 0 := of_decide_eq_true (by assumption)
    rw [if_pos h] at h3
    rw [h3]
    (first | omega | (unfold I64; omega) | (simp only [List.length_append, List.length_map, List.length_cons, List.length_nil, Nat.mul_one, Int.ofNat_eq_natCast] at *; omega) | (dsimp only at *; omega) | (unfold I64; dsimp only at *; omega) | (unfold I64; grind) | grind)
  · have h : k.tmod n < 0 := of_decide_eq_true (by assumption)
    rw [if_pos h] at h3
    conv => whnf
    rw [h3]
    exact hK _ rfl
end Gv
namespace Gv
variable [Glob] [Laid]
theorem concatSL_ca : callable Tryd.prog 14 = true := by kernel_rfl
def concatSL_S : Spec := fun args K => ∃ a : List (List Bs), args = [.sl lsV a] ∧ a.flatten.length ≤ 1000000 ∧ K (.sl strV a.flatten)
noncomputable def concatSL_lib : List (Nat × Spec) := []
noncomputable def concatSL_fns : List (Nat × FnI) := [(23, {fn := Tryd.f23, hooks := [], draws := []})]
noncomputable def concatSL_prims : List (Nat × PSpec) := []
theorem concatSL_E : EnvOK ⟨Tryd.prog, tys, concatSL_lib, concatSL_fns, concatSL_prims, []⟩ := env_ok mixed0 tys0 .nil (.cons (by kernel_rfl) ⟨Tryd.func23, by kernel_rfl, by kernel_rfl⟩ .nil) .nil rfl
set_option maxHeartbeats 4000000 in
theorem concatSL_ok : Pure Tryd.prog 14 concatSL_S := by
  refine pure_by concatSL_E 6 (fi := {fn := Tryd.f14, hooks := [10], draws := []}) ⟨Tryd.func14, by kernel_rfl, by kernel_rfl⟩ ?_
  rintro _ K ⟨x, rfl, hx, hK⟩
  replace hK : ∀ p, p = .sl strV x.flatten → K p := fun r h => h ▸ hK
  obtain ⟨f, hf⟩ : ∃ f : Nat → List Bs, ∀ i, f i = (x.take i).flatten := ⟨_, fun _ => rfl⟩
  have f0 : f 0 = [] := by simp [hf]
  have fS : ∀ i (h : i < x.length), f (i + 1) = f i ++ x[i] := fun i h => by
    rw [hf, hf, List.take_succ_eq_append_getElem h]
    simp only [List.flatten_append, List.flatten_cons, List.flatten_nil, List.append_nil]
  have fN : ∀ i, x.length ≤ i → f i = x.flatten := fun i h => by simp [hf, List.take_of_length_le h]
  have fl : ∀ i, (f i).length ≤ 1000000 := fun i => by
    rw [← List.take_append_drop i x] at hx
    simp only [List.flatten_append, List.length_append] at hx
    rw [hf]; omega
  clear hf
  refine fun (hl : _ ≤ MAXL) => ?_
  conv => whnf
  refine loop_intro (σ := Nat) (fun i => [(0, .sl lsV x), (2, .nil), (9, .sl lsV x), (10, .int .i64 x.length), (11, .int .i64 i), (3, .int .i64 ((f i).length : Nat))]) (fun _ => []) (fun i => i ≤ x.length) (fun i => x.length - i) 0 (wk_sel [] rfl rfl trivial ?_) (Nat.zero_le _) ?_
  · simp only [f0]
    (repeat' (first | exact True.intro | exact rfl | exact Or.inl rfl | exact Or.inr rfl | refine And.intro ?_ ?_ | fail))
  intro i hi
  have hs := fl i
  repeat' (first | exact True.intro | refine ⟨_, LeL.refl _, ?_⟩ | refine ⟨_, _, _, LeL.refl _, ?_⟩ | (refine fun (b : Bool) hb => ?_; cases b <;> (first | exact absurd hb (by decide) | exact Bool.noConfusion (show true = false from hb) | exact Bool.noConfusion (show false = true from hb) | skip)) | (refine fun (hl : _ ≤ MAXL) => ?_) | refine And.intro (a := I64 _) ?_ ?_ | refine And.intro (a := _ ≤ 140737488355328) ?_ ?_ | refine ⟨_, ⟨rfl, rfl⟩, ?_⟩ | refine ⟨_, And.intro (a := I64 _) ?_ ⟨rfl, rfl⟩, ?_⟩ | refine ⟨_, _, ⟨rfl, rfl⟩, ?_⟩ | refine ⟨_, (fun _ => ⟨rfl, rfl⟩), ?_⟩ | refine And.intro (a := chkPend _ _ _ _ _ _) ?_ ?_ | refine And.intro (a := chkPast _ _ _ _ _ _ _ _) ?_ ?_ | refine ⟨⟨rfl, rfl⟩, ?_⟩ | refine And.intro (And.intro rfl rfl) ?_ | refine ⟨True.intro, ?_⟩ | refine ⟨_, ⟨_, rfl, ?_, rfl, rfl, rfl⟩, ?_⟩ | refine ⟨_, rfl, ?_, rfl, ?_⟩ | refine ⟨_, (fun _ => rfl), rfl, ?_⟩ | refine ⟨(fun _ => rfl), ?_⟩ | refine ⟨rfl, ?_⟩ | refine Opt.a ?_ | fail)
  · conv => whnf
    refine join_intro (σ := Unit) (fun _ => [(0, .sl lsV x), (2, .nil), (6, .own 0)]) (fun _ => [.row 1 []]) (fun _ => True) ?_ ?_
    · repeat' (first | exact True.intro | refine ⟨_, LeL.refl _, ?_⟩ | refine ⟨_, _, _, LeL.refl _, ?_⟩ | (refine fun (b : Bool) hb => ?_; cases b <;> (first | exact absurd hb (by decide) | exact Bool.noConfusion (show true = false from hb) | exact Bool.noConfusion (show false = true from hb) | skip)) | (refine fun (hl : _ ≤ MAXL) => ?_) | refine And.intro (a := I64 _) ?_ ?_ | refine And.intro (a := _ ≤ 140737488355328) ?_ ?_ | refine ⟨_, ⟨rfl, rfl⟩, ?_⟩ | refine ⟨_, And.intro (a := I64 _) ?_ ⟨rfl, rfl⟩, ?_⟩ | refine ⟨_, _, ⟨rfl, rfl⟩, ?_⟩ | refine ⟨_, (fun _ => ⟨rfl, rfl⟩), ?_⟩ | refine And.intro (a := chkPend _ _ _ _ _ _) ?_ ?_ | refine And.intro (a := chkPast _ _ _ _ _ _ _ _) ?_ ?_ | refine ⟨⟨rfl, rfl⟩, ?_⟩ | refine And.intro (And.intro rfl rfl) ?_ | refine ⟨True.intro, ?_⟩ | refine ⟨_, ⟨_, rfl, ?_, rfl, rfl, rfl⟩, ?_⟩ | refine ⟨_, rfl, ?_, rfl, ?_⟩ | refine ⟨_, (fun _ => rfl), rfl, ?_⟩ | refine ⟨(fun _ => rfl), ?_⟩ | refine ⟨rfl, ?_⟩ | refine Opt.a ?_ | fail)
      · unfold I64; omega
      · unfold I64; omega
      · refine ⟨(), wk_sel [none] rfl rfl trivial ?_, trivial⟩
        (repeat' (first | exact True.intro | exact rfl | exact Or.inl rfl | exact Or.inr rfl | refine And.intro ?_ ?_ | fail))
      · refine ⟨(f i).length, by simp, by grind, by simp only [Nat.mul_one]; omega, ?_⟩
        refine fun _ => ?_
        refine ⟨0, rfl, Nat.zero_le _, ?_⟩
        refine ⟨(), wk_sel [some 1] rfl rfl ⟨rfl, trivial⟩ ?_, trivial⟩
        (repeat' (first | exact True.intro | exact rfl | exact Or.inl rfl | exact Or.inr rfl | refine And.intro ?_ ?_ | fail))
    intro _ _
    refine fun (hl : _ ≤ MAXL) => ?_
    conv => whnf
    refine loop_intro (σ := Nat) (fun i => [(0, .sl lsV x), (2, .nil), (6, .own 0), (25, .sl lsV x), (26, .int .i64 x.length), (27, .int .i64 i)]) (fun i => [.row 1 ((f i).map strV)]) (fun i => i ≤ x.length) (fun i => x.length - i) 0 (wk_sel [some 0] rfl rfl ⟨?_, trivial⟩ ?_) (Nat.zero_le _) ?_
    · rw [f0]; exact rfl
    · (repeat' (first | exact True.intro | exact rfl | exact Or.inl rfl | exact Or.inr rfl | refine And.intro ?_ ?_ | fail))
    intro i hi
    have hs := fl i
    repeat' (first | exact True.intro | refine ⟨_, LeL.refl _, ?_⟩ | refine ⟨_, _, _, LeL.refl _, ?_⟩ | (refine fun (b : Bool) hb => ?_; cases b <;> (first | exact absurd hb (by decide) | exact Bool.noConfusion (show true = false from hb) | exact Bool.noConfusion (show false = true from hb) | skip)) | (refine fun (hl : _ ≤ MAXL) => ?_) | refine And.intro (a := I64 _) ?_ ?_ | refine And.intro (a := _ ≤ 140737488355328) ?_ ?_ | refine ⟨_, ⟨rfl, rfl⟩, ?_⟩ | refine ⟨_, And.intro (a := I64 _) ?_ ⟨rfl, rfl⟩, ?_⟩ | refine ⟨_, _, ⟨rfl, rfl⟩, ?_⟩ | refine ⟨_, (fun _ => ⟨rfl, rfl⟩), ?_⟩ | refine And.intro (a := chkPend _ _ _ _ _ _) ?_ ?_ | refine And.intro (a := chkPast _ _ _ _ _ _ _ _) ?_ ?_ | refine ⟨⟨rfl, rfl⟩, ?_⟩ | refine And.intro (And.intro rfl rfl) ?_ | refine ⟨True.intro, ?_⟩ | refine ⟨_, ⟨_, rfl, ?_, rfl, rfl, rfl⟩, ?_⟩ | refine ⟨_, rfl, ?_, rfl, ?_⟩ | refine ⟨_, (fun _ => rfl), rfl, ?_⟩ | refine ⟨(fun _ => rfl), ?_⟩ | refine ⟨rfl, ?_⟩ | refine Opt.a ?_ | refine ⟨Bs, strV, ?_⟩ | fail)
    · refine hK _ ?_
      rw [fN i (by grind)]
    · grind
    · have := fl (i + 1)
      rw [fS i (by grind)] at this
      simp only [List.length_append, List.length_map, lsV, elsOf] at this ⊢
      omega
    · unfold I64; grind
    · refine ⟨i + 1, ?_, ?_, ?_⟩
      · refine wk_sel [some 1] rfl rfl ⟨?_, trivial⟩ ?_
        · rw [fS i (by grind), List.map_append]
          exact rfl
        · (repeat' (first | exact True.intro | exact rfl | exact Or.inl rfl | exact Or.inr rfl | refine And.intro ?_ ?_ | fail))
      · grind
      · grind
  · grind
  · unfold I64; grind
  · unfold I64; grind
  · refine ⟨i + 1, ?_, ?_, ?_⟩
    · refine wk_sel [] rfl rfl trivial ?_
      rw [fS i (by grind)]
      simp only [List.length_append]
      (repeat' (first | exact True.intro | exact rfl | exact Or.inl rfl | exact Or.inr rfl | refine And.intro ?_ ?_ | fail))
    · grind
    · grind
end Gv
namespace Gv
variable [Glob] [Laid]
/-- What line.Bytes comes to: the lines so far, their bytes' number. -/
def bytesGo : Nat → List Bs → Int
  | _, [] => 0
  | n, s :: r => if s.contains 10 = true then 4 else if (s.length : Int) > 4000 - n - 1 then 2 else bytesGo (n + s.length + 1) r
def lineBytes (l : List Bs) : Bs × Int := if bytesGo 0 l = 0 then (put l, 0) else ([], bytesGo 0 l)
theorem bytesGo_at {l : List Bs} {i : Nat} (h : bytesGo (put (l.take i)).length (l.drop i) = bytesGo 0 l) (hi : i < l.length) :
    bytesGo 0 l = if l[i].contains 10 = true then 4 else if (l[i].length : Int) > 4000 - (put (l.take i)).length - 1 then 2 else bytesGo (put (l.take (i + 1))).length (l.drop (i + 1)) := by
  rw [← h, List.drop_eq_getElem_cons hi, bytesGo, put_take_succ hi]
  simp only [List.length_append, List.length_cons, List.length_nil, Nat.add_assoc]
theorem bytesGo_ok : ∀ {l : List Bs} {n : Nat}, bytesGo n l = 0 → NoNl l ∧ (n ≤ 4000 → n + (put l).length ≤ 4000)
  | [], n, h => ⟨(fun s hs => by cases hs), (fun h => by simpa [put] using h)⟩
  | s :: r, n, h => by
    unfold bytesGo at h
    split at h
    · cases h
    · rename_i h1
      split at h
      · cases h
      · rename_i h2
        obtain ⟨h3, h4⟩ := bytesGo_ok h
        refine ⟨fun x hx => ?_, fun hn => ?_⟩
        · rcases List.mem_cons.1 hx with rfl | hx
          · simpa using h1
          · exact h3 x hx
        · have := h4 (by omega)
          simp only [put, List.length_append, List.length_cons]
          omega
theorem bytes_ca : callable Tryd.prog 13 = true := by kernel_rfl
def bytes_S : Spec := fun args K => ∃ l : List Bs, args = [.sl strV l] ∧ (∀ s ∈ l, s.length ≤ reachBytes) ∧ K (.tup [.sl byteV (lineBytes l).1, .int .i64 (lineBytes l).2])
noncomputable def bytes_lib : List (Nat × Spec) := [(10, containsB_S)]
noncomputable def bytes_fns : List (Nat × FnI) := []
noncomputable def bytes_prims : List (Nat × PSpec) := []
theorem bytes_E : EnvOK ⟨Tryd.prog, tys, bytes_lib, bytes_fns, bytes_prims, []⟩ := env_ok mixed0 tys0 (.cons containsB_ca containsB_ok .nil) .nil .nil rfl
set_option maxHeartbeats 4000000 in
theorem bytes_ok : Pure Tryd.prog 13 bytes_S := by
  refine pure_by bytes_E 6 (fi := {fn := Tryd.f13, hooks := [], draws := []}) ⟨Tryd.func13, by kernel_rfl, by kernel_rfl⟩ ?_
  rintro _ K ⟨l, rfl, hz, hK⟩
  replace hK : ∀ r, r = .tup [.sl byteV (lineBytes l).1, .int .i64 (lineBytes l).2] → K r := fun r h => h ▸ hK
  refine fun (hl : _ ≤ MAXL) => ?_
  conv => whnf
  refine loop_live [7, 8] (σ := Nat) (fun i => [(4, .own 0), (9, .int .i64 i)]) (fun i => [.row 1 ((put (l.take i)).map byteV)]) (fun i => i ≤ l.length ∧ bytesGo (put (l.take i)).length (l.drop i) = bytesGo 0 l ∧ (put (l.take i)).length ≤ 4000) (fun i => l.length - i) 0 ?_
  conv => whnf
  refine ⟨(by (refine wk_sel [none] rfl rfl ?_ ?_ <;> (repeat' (first | exact True.intro | exact rfl | exact Or.inl rfl | exact Or.inr rfl | refine And.intro ?_ ?_ | fail)))), ⟨Nat.zero_le _, rfl, by simp [put]⟩, fun i hi => ?_⟩
  obtain ⟨hi, hg, hs⟩ := hi
  repeat' (first | exact True.intro | refine ⟨_, LeL.refl _, ?_⟩ | refine ⟨_, _, _, LeL.refl _, ?_⟩ | (refine fun (b : Bool) hb => ?_; cases b <;> (first | exact absurd hb (by decide) | exact Bool.noConfusion (show true = false from hb) | exact Bool.noConfusion (show false = true from hb) | skip)) | (refine fun (hl : _ ≤ MAXL) => ?_) | refine And.intro (a := I64 _) ?_ ?_ | refine And.intro (a := _ ≤ 140737488355328) ?_ ?_ | refine ⟨_, ⟨rfl, rfl⟩, ?_⟩ | refine ⟨_, And.intro (a := I64 _) ?_ ⟨rfl, rfl⟩, ?_⟩ | refine ⟨_, _, ⟨rfl, rfl⟩, ?_⟩ | refine ⟨_, (fun _ => ⟨rfl, rfl⟩), ?_⟩ | refine And.intro (a := chkPend _ _ _ _ _ _) ?_ ?_ | refine And.intro (a := chkPast _ _ _ _ _ _ _ _) ?_ ?_ | refine ⟨⟨rfl, rfl⟩, ?_⟩ | refine And.intro (And.intro rfl rfl) ?_ | refine ⟨True.intro, ?_⟩ | refine ⟨_, ⟨_, rfl, ?_, rfl, rfl, rfl⟩, ?_⟩ | refine ⟨_, rfl, ?_, rfl, ?_⟩ | refine ⟨_, (fun _ => rfl), rfl, ?_⟩ | refine ⟨(fun _ => rfl), ?_⟩ | refine ⟨rfl, ?_⟩ | refine Opt.a ?_ | fail)
  · refine hK _ ?_
    have e : l.take i = l := List.take_of_length_le (by grind)
    have e2 : l.drop i = [] := List.drop_eq_nil_of_le (by grind)
    rw [e2, bytesGo] at hg
    unfold lineBytes
    rw [← hg, e]
    rfl
  · grind
  · exact Nat.le_trans (hz _ (List.getElem_mem (by grind))) (by decide)
  have hi2 : i < l.length := by grind
  have ha := bytesGo_at hg hi2
  have ht := @put_take_succ l i hi2
  refine ⟨l[i], 10, rfl, ?_⟩
  repeat' (first | exact True.intro | refine ⟨_, LeL.refl _, ?_⟩ | refine ⟨_, _, _, LeL.refl _, ?_⟩ | (refine fun (b : Bool) hb => ?_; cases b <;> (first | exact absurd hb (by decide) | exact Bool.noConfusion (show true = false from hb) | exact Bool.noConfusion (show false = true from hb) | skip)) | (refine fun (hl : _ ≤ MAXL) => ?_) | refine And.intro (a := I64 _) ?_ ?_ | refine And.intro (a := _ ≤ 140737488355328) ?_ ?_ | refine ⟨_, ⟨rfl, rfl⟩, ?_⟩ | refine ⟨_, And.intro (a := I64 _) ?_ ⟨rfl, rfl⟩, ?_⟩ | refine ⟨_, _, ⟨rfl, rfl⟩, ?_⟩ | refine ⟨_, (fun _ => ⟨rfl, rfl⟩), ?_⟩ | refine And.intro (a := chkPend _ _ _ _ _ _) ?_ ?_ | refine And.intro (a := chkPast _ _ _ _ _ _ _ _) ?_ ?_ | refine ⟨⟨rfl, rfl⟩, ?_⟩ | refine And.intro (And.intro rfl rfl) ?_ | refine ⟨True.intro, ?_⟩ | refine ⟨_, ⟨_, rfl, ?_, rfl, rfl, rfl⟩, ?_⟩ | refine ⟨_, rfl, ?_, rfl, ?_⟩ | refine ⟨_, (fun _ => rfl), rfl, ?_⟩ | refine ⟨(fun _ => rfl), ?_⟩ | refine ⟨rfl, ?_⟩ | refine Opt.a ?_ | refine ⟨UInt8, byteV, ?_⟩ | fail)
  · (first | omega | (unfold I64; omega) | (simp only [List.length_append, List.length_map, List.length_cons, List.length_nil, Nat.mul_one, Int.ofNat_eq_natCast] at *; omega) | (dsimp only at *; omega) | (unfold I64; dsimp only at *; omega) | (unfold I64; grind) | grind)
  · (first | omega | (unfold I64; omega) | (simp only [List.length_append, List.length_map, List.length_cons, List.length_nil, Nat.mul_one, Int.ofNat_eq_natCast] at *; omega) | (dsimp only at *; omega) | (unfold I64; dsimp only at *; omega) | (unfold I64; grind) | grind)
  · simp only [List.length_append, List.length_map, List.length_cons, List.length_nil, Nat.mul_one] at *
    grind
  · simp only [List.length_append, List.length_map, List.length_cons, List.length_nil, Nat.mul_one] at *
    grind
  · (first | omega | (unfold I64; omega) | (simp only [List.length_append, List.length_map, List.length_cons, List.length_nil, Nat.mul_one, Int.ofNat_eq_natCast] at *; omega) | (dsimp only at *; omega) | (unfold I64; dsimp only at *; omega) | (unfold I64; grind) | grind)
  · simp only [List.length_map] at *
    have h1 : ¬ l[i].contains 10 = true := by grind
    have h2 : ¬ (l[i].length : Int) > 4000 - (put (l.take i)).length - 1 := by grind
    rw [if_neg h1, if_neg h2] at ha
    refine ⟨i + 1, ?_, ⟨by omega, ha.symm, ?_⟩, by omega⟩
    · refine wk_sel [some 3] rfl rfl ⟨?_, trivial⟩ ?_
      · rw [ht, List.map_append, List.map_append, ← List.append_assoc]
        exact rfl
      · (repeat' (first | exact True.intro | exact rfl | exact Or.inl rfl | exact Or.inr rfl | refine And.intro ?_ ?_ | fail))
    · rw [ht]
      simp only [List.length_append, List.length_cons, List.length_nil]
      omega
  · simp only [List.length_map] at *
    refine hK _ ?_
    have h1 : ¬ l[i].contains 10 = true := by grind
    have h2 : (l[i].length : Int) > 4000 - (put (l.take i)).length - 1 := by grind
    rw [if_neg h1, if_pos h2] at ha
    unfold lineBytes
    rw [ha]
    rfl
  · refine hK _ ?_
    have h1 : l[i].contains 10 = true := by assumption
    rw [if_pos h1] at ha
    unfold lineBytes
    rw [ha]
    rfl
end Gv
namespace Gv
variable [Glob] [Laid] [Nums]
theorem bytesGo_fine : ∀ {l : List Bs} {n : Nat}, NoNl l → n + (put l).length ≤ 4000 → bytesGo n l = 0
  | [], _, _, _ => rfl
  | s :: r, n, h, hl => by
    simp only [put, List.length_append, List.length_cons] at hl
    unfold bytesGo
    have h1 : s.contains 10 = false := by simpa using h s (by simp)
    rw [if_neg (by rw [h1]; simp), if_neg (by omega)]
    exact bytesGo_fine (fun t ht => h t (by simp [ht])) (by omega)
theorem lineBytes_ok {l : List Bs} (h : NoNl l) (hl : (put l).length ≤ 4000) : lineBytes l = (put l, 0) := by
  unfold lineBytes
  rw [if_pos (bytesGo_fine h (by omega))]
theorem cTwice_ca : callable Tryd.prog 3 = true := by kernel_rfl
def cTwice_S : Spec := fun args K => ∃ (c : Cmd) (b : Bs) (k : Int), args = [cmdV c, .sl byteV b, .int .i64 k] ∧ (b.length ≤ 140737488355328 ∧ I64 k) ∧ K (.bool true)
noncomputable def cTwice_lib : List (Nat × Spec) := [(4, did_S), (5, ccheck_S), (6, small_S), (7, Do_S), (8, equalB_S), (9, wholeR_S), (10, containsB_S), (11, Of_S), (12, atI_S), (14, concatSL_S), (13, bytes_S)]
noncomputable def cTwice_fns : List (Nat × FnI) := []
noncomputable def cTwice_prims : List (Nat × PSpec) := []
theorem cTwice_E : EnvOK ⟨Tryd.prog, tys, cTwice_lib, cTwice_fns, cTwice_prims, []⟩ := env_ok mixed0 tys0 (.cons did_ca did_ok (.cons ccheck_ca ccheck_ok (.cons small_ca small_ok (.cons Do_ca Do_ok (.cons equalB_ca equalB_ok (.cons wholeR_ca wholeR_ok (.cons containsB_ca containsB_ok (.cons Of_ca Of_ok (.cons atI_ca atI_ok (.cons concatSL_ca concatSL_ok (.cons bytes_ca bytes_ok .nil))))))))))) .nil .nil rfl
set_option maxHeartbeats 4000000 in
theorem cTwice_ok : Pure Tryd.prog 3 cTwice_S := by
  refine pure_by cTwice_E 6 (fi := {fn := Tryd.f3, hooks := [22], draws := [(20, [0, 1, 3, 0, 8, 24, 63, 127, 255, 255, 767, 1791, 4095, 8191]), (26, [0, 0, 3, 0, 0, 24, 63, 127, 255, 511, 1023, 1023, 2047, 8191])]}) ⟨Tryd.func3, by kernel_rfl, by kernel_rfl⟩ ?_
  rintro _ K ⟨c, b, k, rfl, ⟨hb0, hk⟩, hK⟩
  replace hK : ∀ r, r = .bool true → K r := fun r h => h ▸ hK
  repeat' (first | exact True.intro | refine ⟨_, LeL.refl _, ?_⟩ | refine ⟨_, _, _, LeL.refl _, ?_⟩ | (refine fun (b : Bool) hb => ?_; cases b <;> (first | exact absurd hb (by decide) | exact Bool.noConfusion (show true = false from hb) | exact Bool.noConfusion (show false = true from hb) | skip)) | (refine fun (hl : _ ≤ MAXL) => ?_) | refine And.intro (a := I64 _) ?_ ?_ | refine And.intro (a := _ ≤ 140737488355328) ?_ ?_ | refine ⟨_, ⟨rfl, rfl⟩, ?_⟩ | refine ⟨_, And.intro (a := I64 _) ?_ ⟨rfl, rfl⟩, ?_⟩ | refine ⟨_, _, ⟨rfl, rfl⟩, ?_⟩ | refine ⟨_, (fun _ => ⟨rfl, rfl⟩), ?_⟩ | refine And.intro (a := chkPend _ _ _ _ _ _) ?_ ?_ | refine And.intro (a := chkPast _ _ _ _ _ _ _ _) ?_ ?_ | refine ⟨⟨rfl, rfl⟩, ?_⟩ | refine And.intro (And.intro rfl rfl) ?_ | refine ⟨True.intro, ?_⟩ | refine ⟨_, ⟨_, rfl, ?_, rfl, rfl, rfl⟩, ?_⟩ | refine ⟨_, rfl, ?_, rfl, ?_⟩ | refine ⟨_, (fun _ => rfl), rfl, ?_⟩ | refine ⟨(fun _ => rfl), ?_⟩ | refine ⟨rfl, ?_⟩ | refine Opt.a ?_ | fail)
  refine ⟨c.kind, c.word, c.n, rfl, ?_⟩
  have e2 : checkCmd ⟨c.kind, c.word, c.n⟩ = checkCmd c := rfl
  rw [e2]
  obtain ⟨e, he⟩ : ∃ e, checkCmd c = e := ⟨_, rfl⟩
  rw [he]
  repeat' (first | exact True.intro | refine ⟨_, LeL.refl _, ?_⟩ | refine ⟨_, _, _, LeL.refl _, ?_⟩ | (refine fun (b : Bool) hb => ?_; cases b <;> (first | exact absurd hb (by decide) | exact Bool.noConfusion (show true = false from hb) | exact Bool.noConfusion (show false = true from hb) | skip)) | (refine fun (hl : _ ≤ MAXL) => ?_) | refine And.intro (a := I64 _) ?_ ?_ | refine And.intro (a := _ ≤ 140737488355328) ?_ ?_ | refine ⟨_, ⟨rfl, rfl⟩, ?_⟩ | refine ⟨_, And.intro (a := I64 _) ?_ ⟨rfl, rfl⟩, ?_⟩ | refine ⟨_, _, ⟨rfl, rfl⟩, ?_⟩ | refine ⟨_, (fun _ => ⟨rfl, rfl⟩), ?_⟩ | refine And.intro (a := chkPend _ _ _ _ _ _) ?_ ?_ | refine And.intro (a := chkPast _ _ _ _ _ _ _ _) ?_ ?_ | refine ⟨⟨rfl, rfl⟩, ?_⟩ | refine And.intro (And.intro rfl rfl) ?_ | refine ⟨True.intro, ?_⟩ | refine ⟨_, ⟨_, rfl, ?_, rfl, rfl, rfl⟩, ?_⟩ | refine ⟨_, rfl, ?_, rfl, ?_⟩ | refine ⟨_, (fun _ => rfl), rfl, ?_⟩ | refine ⟨(fun _ => rfl), ?_⟩ | refine ⟨rfl, ?_⟩ | refine Opt.a ?_ | fail)
  rotate_left
  · exact hK _ rfl
  have he0 : checkCmd c = 0 := by
    have h : (!decide (e = 0)) = false := by assumption
    rw [he]
    simpa using h
  refine ⟨Bs, blV, [b], LeL.refl _, ?_⟩
  refine ⟨[b], rfl, fun x hx => by
    simp only [List.mem_cons, List.not_mem_nil, or_false] at hx
    rw [hx]; exact hb0, ?_⟩
  obtain ⟨q, hq⟩ : ∃ q, decide ([b].flatten.length ≤ 2000) = q := ⟨_, rfl⟩
  rw [hq]
  cases q
  · repeat' (first | exact True.intro | refine ⟨_, LeL.refl _, ?_⟩ | refine ⟨_, _, _, LeL.refl _, ?_⟩ | (refine fun (b : Bool) hb => ?_; cases b <;> (first | exact absurd hb (by decide) | exact Bool.noConfusion (show true = false from hb) | exact Bool.noConfusion (show false = true from hb) | skip)) | (refine fun (hl : _ ≤ MAXL) => ?_) | refine And.intro (a := I64 _) ?_ ?_ | refine And.intro (a := _ ≤ 140737488355328) ?_ ?_ | refine ⟨_, ⟨rfl, rfl⟩, ?_⟩ | refine ⟨_, And.intro (a := I64 _) ?_ ⟨rfl, rfl⟩, ?_⟩ | refine ⟨_, _, ⟨rfl, rfl⟩, ?_⟩ | refine ⟨_, (fun _ => ⟨rfl, rfl⟩), ?_⟩ | refine And.intro (a := chkPend _ _ _ _ _ _) ?_ ?_ | refine And.intro (a := chkPast _ _ _ _ _ _ _ _) ?_ ?_ | refine ⟨⟨rfl, rfl⟩, ?_⟩ | refine And.intro (And.intro rfl rfl) ?_ | refine ⟨True.intro, ?_⟩ | refine ⟨_, ⟨_, rfl, ?_, rfl, rfl, rfl⟩, ?_⟩ | refine ⟨_, rfl, ?_, rfl, ?_⟩ | refine ⟨_, (fun _ => rfl), rfl, ?_⟩ | refine ⟨(fun _ => rfl), ?_⟩ | refine ⟨rfl, ?_⟩ | refine Opt.a ?_ | fail)
    exact hK _ rfl
  have hsm : b.length ≤ 2000 := by
    have := of_decide_eq_true hq
    simpa using this
  obtain ⟨L, hL⟩ : ∃ L, linesOf b = L := ⟨_, rfl⟩
  have hLn : NoNl L := hL ▸ linesOf_no10 b
  have hLl : L.length ≤ 2000 := by rw [← hL]; exact Nat.le_trans (linesOf_len b) hsm
  have hLp : (put L).length ≤ 2001 := by rw [← hL]; exact Nat.le_trans (put_lines b) (by omega)
  obtain ⟨X, hX⟩ : ∃ X, put (linesC c L) = X := ⟨_, rfl⟩
  have hXl : X.length ≤ 2031 := by rw [← hX]; exact Nat.le_trans (linesC_put he0 L (by omega)) (by omega)
  have hd1 : doC c b = (X, 0) := by rw [doC_at he0 (by omega), hL, hX]
  obtain ⟨Y, hY⟩ : ∃ Y, put (linesC c (linesOf X)) = Y := ⟨_, rfl⟩
  have hd2 : doC c X = (Y, 0) := by rw [doC_at he0 (by omega), hY]
  repeat' (first | exact True.intro | refine ⟨_, LeL.refl _, ?_⟩ | refine ⟨_, _, _, LeL.refl _, ?_⟩ | (refine fun (b : Bool) hb => ?_; cases b <;> (first | exact absurd hb (by decide) | exact Bool.noConfusion (show true = false from hb) | exact Bool.noConfusion (show false = true from hb) | skip)) | (refine fun (hl : _ ≤ MAXL) => ?_) | refine And.intro (a := I64 _) ?_ ?_ | refine And.intro (a := _ ≤ 140737488355328) ?_ ?_ | refine ⟨_, ⟨rfl, rfl⟩, ?_⟩ | refine ⟨_, And.intro (a := I64 _) ?_ ⟨rfl, rfl⟩, ?_⟩ | refine ⟨_, _, ⟨rfl, rfl⟩, ?_⟩ | refine ⟨_, (fun _ => ⟨rfl, rfl⟩), ?_⟩ | refine And.intro (a := chkPend _ _ _ _ _ _) ?_ ?_ | refine And.intro (a := chkPast _ _ _ _ _ _ _ _) ?_ ?_ | refine ⟨⟨rfl, rfl⟩, ?_⟩ | refine And.intro (And.intro rfl rfl) ?_ | refine ⟨True.intro, ?_⟩ | refine ⟨_, ⟨_, rfl, ?_, rfl, rfl, rfl⟩, ?_⟩ | refine ⟨_, rfl, ?_, rfl, ?_⟩ | refine ⟨_, (fun _ => rfl), rfl, ?_⟩ | refine ⟨(fun _ => rfl), ?_⟩ | refine ⟨rfl, ?_⟩ | refine Opt.a ?_ | fail)
  refine ⟨c, b, rfl, ?_⟩
  rw [hd1]
  repeat' (first | exact True.intro | refine ⟨_, LeL.refl _, ?_⟩ | refine ⟨_, _, _, LeL.refl _, ?_⟩ | (refine fun (b : Bool) hb => ?_; cases b <;> (first | exact absurd hb (by decide) | exact Bool.noConfusion (show true = false from hb) | exact Bool.noConfusion (show false = true from hb) | skip)) | (refine fun (hl : _ ≤ MAXL) => ?_) | refine And.intro (a := I64 _) ?_ ?_ | refine And.intro (a := _ ≤ 140737488355328) ?_ ?_ | refine ⟨_, ⟨rfl, rfl⟩, ?_⟩ | refine ⟨_, And.intro (a := I64 _) ?_ ⟨rfl, rfl⟩, ?_⟩ | refine ⟨_, _, ⟨rfl, rfl⟩, ?_⟩ | refine ⟨_, (fun _ => ⟨rfl, rfl⟩), ?_⟩ | refine And.intro (a := chkPend _ _ _ _ _ _) ?_ ?_ | refine And.intro (a := chkPast _ _ _ _ _ _ _ _) ?_ ?_ | refine ⟨⟨rfl, rfl⟩, ?_⟩ | refine And.intro (And.intro rfl rfl) ?_ | refine ⟨True.intro, ?_⟩ | refine ⟨_, ⟨_, rfl, ?_, rfl, rfl, rfl⟩, ?_⟩ | refine ⟨_, rfl, ?_, rfl, ?_⟩ | refine ⟨_, (fun _ => rfl), rfl, ?_⟩ | refine ⟨(fun _ => rfl), ?_⟩ | refine ⟨rfl, ?_⟩ | refine Opt.a ?_ | fail)
  refine ⟨c, X, rfl, ?_⟩
  rw [hd2]
  repeat' (first | exact True.intro | refine ⟨_, LeL.refl _, ?_⟩ | refine ⟨_, _, _, LeL.refl _, ?_⟩ | (refine fun (b : Bool) hb => ?_; cases b <;> (first | exact absurd hb (by decide) | exact Bool.noConfusion (show true = false from hb) | exact Bool.noConfusion (show false = true from hb) | skip)) | (refine fun (hl : _ ≤ MAXL) => ?_) | refine And.intro (a := I64 _) ?_ ?_ | refine And.intro (a := _ ≤ 140737488355328) ?_ ?_ | refine ⟨_, ⟨rfl, rfl⟩, ?_⟩ | refine ⟨_, And.intro (a := I64 _) ?_ ⟨rfl, rfl⟩, ?_⟩ | refine ⟨_, _, ⟨rfl, rfl⟩, ?_⟩ | refine ⟨_, (fun _ => ⟨rfl, rfl⟩), ?_⟩ | refine And.intro (a := chkPend _ _ _ _ _ _) ?_ ?_ | refine And.intro (a := chkPast _ _ _ _ _ _ _ _) ?_ ?_ | refine ⟨⟨rfl, rfl⟩, ?_⟩ | refine And.intro (And.intro rfl rfl) ?_ | refine ⟨True.intro, ?_⟩ | refine ⟨_, ⟨_, rfl, ?_, rfl, rfl, rfl⟩, ?_⟩ | refine ⟨_, rfl, ?_, rfl, ?_⟩ | refine ⟨_, (fun _ => rfl), rfl, ?_⟩ | refine ⟨(fun _ => rfl), ?_⟩ | refine ⟨rfl, ?_⟩ | refine Opt.a ?_ | fail)
  have hkind : 1 ≤ c.kind ∧ c.kind ≤ 10 := by
    unfold checkCmd at he0
    grind
  have hXn : c.kind ≠ 8 → linesOf X = linesC c L := fun h => by rw [← hX]; exact linesOf_put (linesC_noNl he0 h hLn)
  have hsame : (c.kind = 6 ∨ c.kind = 7 ∨ c.kind = 1 ∨ c.kind = 2 ∨ c.kind = 9 ∨ c.kind = 10) → X = Y := fun h => by
    rw [← hY, hXn (by omega), linesC_again h, hX]
  have hturn : c.kind = 5 → Y = whole b := fun h => by
    rw [← hY, hXn (by omega), linesC_turn h, linesC_turn h, List.map_map]
    unfold whole
    rw [hL]
    congr 1
    have : L.map (List.reverse ∘ List.reverse) = L.map id := List.map_congr_left fun x _ => by simp
    rw [this, List.map_id]
  conv => whnf
  refine join_live [1, 2] (σ := Unit) (fun _ => []) (fun _ => []) (fun _ => True) ?_
  conv => whnf
  refine ⟨?_, fun _ _ => ?_⟩
  · have hk10 : c.kind = 1 ∨ c.kind = 2 ∨ c.kind = 3 ∨ c.kind = 4 ∨ c.kind = 5 ∨ c.kind = 6 ∨ c.kind = 7 ∨ c.kind = 8 ∨ c.kind = 9 ∨ c.kind = 10 := by omega
    obtain ⟨ck, cw, cn⟩ := c
    dsimp only at hk10
    rcases hk10 with rfl | rfl | rfl | rfl | rfl | rfl | rfl | rfl | rfl | rfl
    · repeat' (first | exact True.intro | refine ⟨_, LeL.refl _, ?_⟩ | refine ⟨_, _, _, LeL.refl _, ?_⟩ | (refine fun (b : Bool) hb => ?_; cases b <;> (first | exact absurd hb (by decide) | exact Bool.noConfusion (show true = false from hb) | exact Bool.noConfusion (show false = true from hb) | skip)) | (refine fun (hl : _ ≤ MAXL) => ?_) | refine And.intro (a := I64 _) ?_ ?_ | refine And.intro (a := _ ≤ 140737488355328) ?_ ?_ | refine ⟨_, ⟨rfl, rfl⟩, ?_⟩ | refine ⟨_, And.intro (a := I64 _) ?_ ⟨rfl, rfl⟩, ?_⟩ | refine ⟨_, _, ⟨rfl, rfl⟩, ?_⟩ | refine ⟨_, (fun _ => ⟨rfl, rfl⟩), ?_⟩ | refine And.intro (a := chkPend _ _ _ _ _ _) ?_ ?_ | refine And.intro (a := chkPast _ _ _ _ _ _ _ _) ?_ ?_ | refine ⟨⟨rfl, rfl⟩, ?_⟩ | refine And.intro (And.intro rfl rfl) ?_ | refine ⟨True.intro, ?_⟩ | refine ⟨_, ⟨_, rfl, ?_, rfl, rfl, rfl⟩, ?_⟩ | refine ⟨_, rfl, ?_, rfl, ?_⟩ | refine ⟨_, (fun _ => rfl), rfl, ?_⟩ | refine ⟨(fun _ => rfl), ?_⟩ | refine ⟨rfl, ?_⟩ | refine Opt.a ?_ | fail)
      refine ⟨X, Y, rfl, ?_⟩
      rw [decide_eq_true (hsame (by simp))]
      repeat' (first | exact True.intro | refine ⟨_, LeL.refl _, ?_⟩ | refine ⟨_, _, _, LeL.refl _, ?_⟩ | (refine fun (b : Bool) hb => ?_; cases b <;> (first | exact absurd hb (by decide) | exact Bool.noConfusion (show true = false from hb) | exact Bool.noConfusion (show false = true from hb) | skip)) | (refine fun (hl : _ ≤ MAXL) => ?_) | refine And.intro (a := I64 _) ?_ ?_ | refine And.intro (a := _ ≤ 140737488355328) ?_ ?_ | refine ⟨_, ⟨rfl, rfl⟩, ?_⟩ | refine ⟨_, And.intro (a := I64 _) ?_ ⟨rfl, rfl⟩, ?_⟩ | refine ⟨_, _, ⟨rfl, rfl⟩, ?_⟩ | refine ⟨_, (fun _ => ⟨rfl, rfl⟩), ?_⟩ | refine And.intro (a := chkPend _ _ _ _ _ _) ?_ ?_ | refine And.intro (a := chkPast _ _ _ _ _ _ _ _) ?_ ?_ | refine ⟨⟨rfl, rfl⟩, ?_⟩ | refine And.intro (And.intro rfl rfl) ?_ | refine ⟨True.intro, ?_⟩ | refine ⟨_, ⟨_, rfl, ?_, rfl, rfl, rfl⟩, ?_⟩ | refine ⟨_, rfl, ?_, rfl, ?_⟩ | refine ⟨_, (fun _ => rfl), rfl, ?_⟩ | refine ⟨(fun _ => rfl), ?_⟩ | refine ⟨rfl, ?_⟩ | refine Opt.a ?_ | fail)
      exact ⟨(), (by (refine wk_auto ?_; refine Sel4.mk rfl rfl ?_ ?_ <;> (repeat' (first | exact True.intro | exact rfl | exact Or.inl rfl | exact Or.inr rfl | refine And.intro ?_ ?_ | fail)))), trivial⟩
    · repeat' (first | exact True.intro | refine ⟨_, LeL.refl _, ?_⟩ | refine ⟨_, _, _, LeL.refl _, ?_⟩ | (refine fun (b : Bool) hb => ?_; cases b <;> (first | exact absurd hb (by decide) | exact Bool.noConfusion (show true = false from hb) | exact Bool.noConfusion (show false = true from hb) | skip)) | (refine fun (hl : _ ≤ MAXL) => ?_) | refine And.intro (a := I64 _) ?_ ?_ | refine And.intro (a := _ ≤ 140737488355328) ?_ ?_ | refine ⟨_, ⟨rfl, rfl⟩, ?_⟩ | refine ⟨_, And.intro (a := I64 _) ?_ ⟨rfl, rfl⟩, ?_⟩ | refine ⟨_, _, ⟨rfl, rfl⟩, ?_⟩ | refine ⟨_, (fun _ => ⟨rfl, rfl⟩), ?_⟩ | refine And.intro (a := chkPend _ _ _ _ _ _) ?_ ?_ | refine And.intro (a := chkPast _ _ _ _ _ _ _ _) ?_ ?_ | refine ⟨⟨rfl, rfl⟩, ?_⟩ | refine And.intro (And.intro rfl rfl) ?_ | refine ⟨True.intro, ?_⟩ | refine ⟨_, ⟨_, rfl, ?_, rfl, rfl, rfl⟩, ?_⟩ | refine ⟨_, rfl, ?_, rfl, ?_⟩ | refine ⟨_, (fun _ => rfl), rfl, ?_⟩ | refine ⟨(fun _ => rfl), ?_⟩ | refine ⟨rfl, ?_⟩ | refine Opt.a ?_ | fail)
      refine ⟨X, Y, rfl, ?_⟩
      rw [decide_eq_true (hsame (by simp))]
      repeat' (first | exact True.intro | refine ⟨_, LeL.refl _, ?_⟩ | refine ⟨_, _, _, LeL.refl _, ?_⟩ | (refine fun (b : Bool) hb => ?_; cases b <;> (first | exact absurd hb (by decide) | exact Bool.noConfusion (show true = false from hb) | exact Bool.noConfusion (show false = true from hb) | skip)) | (refine fun (hl : _ ≤ MAXL) => ?_) | refine And.intro (a := I64 _) ?_ ?_ | refine And.intro (a := _ ≤ 140737488355328) ?_ ?_ | refine ⟨_, ⟨rfl, rfl⟩, ?_⟩ | refine ⟨_, And.intro (a := I64 _) ?_ ⟨rfl, rfl⟩, ?_⟩ | refine ⟨_, _, ⟨rfl, rfl⟩, ?_⟩ | refine ⟨_, (fun _ => ⟨rfl, rfl⟩), ?_⟩ | refine And.intro (a := chkPend _ _ _ _ _ _) ?_ ?_ | refine And.intro (a := chkPast _ _ _ _ _ _ _ _) ?_ ?_ | refine ⟨⟨rfl, rfl⟩, ?_⟩ | refine And.intro (And.intro rfl rfl) ?_ | refine ⟨True.intro, ?_⟩ | refine ⟨_, ⟨_, rfl, ?_, rfl, rfl, rfl⟩, ?_⟩ | refine ⟨_, rfl, ?_, rfl, ?_⟩ | refine ⟨_, (fun _ => rfl), rfl, ?_⟩ | refine ⟨(fun _ => rfl), ?_⟩ | refine ⟨rfl, ?_⟩ | refine Opt.a ?_ | fail)
      exact ⟨(), (by (refine wk_auto ?_; refine Sel4.mk rfl rfl ?_ ?_ <;> (repeat' (first | exact True.intro | exact rfl | exact Or.inl rfl | exact Or.inr rfl | refine And.intro ?_ ?_ | fail)))), trivial⟩
    · obtain ⟨x, y, hw⟩ := word2 he0 rfl
      have h10 := word_no10 he0 rfl
      dsimp only at hw
      subst hw
      have hx10 : x ≠ 10 := h10 x (by simp)
      have hXX : x ≠ y → (X.contains x) = false := fun hxy => by
        rw [← hX, linesC_swap rfl rfl]
        rw [List.contains_eq_mem, decide_eq_false]
        exact put_no hx10 (fun s hs => by
          obtain ⟨t, -, rfl⟩ := List.mem_map.1 hs
          intro hm
          obtain ⟨z, -, e⟩ := List.mem_map.1 hm
          split at e
          · exact hxy e.symm
          · rename_i hz; exact hz e)
      repeat' (first | exact True.intro | refine ⟨_, LeL.refl _, ?_⟩ | refine ⟨_, _, _, LeL.refl _, ?_⟩ | (refine fun (b : Bool) hb => ?_; cases b <;> (first | exact absurd hb (by decide) | exact Bool.noConfusion (show true = false from hb) | exact Bool.noConfusion (show false = true from hb) | skip)) | (refine fun (hl : _ ≤ MAXL) => ?_) | refine And.intro (a := I64 _) ?_ ?_ | refine And.intro (a := _ ≤ 140737488355328) ?_ ?_ | refine ⟨_, ⟨rfl, rfl⟩, ?_⟩ | refine ⟨_, And.intro (a := I64 _) ?_ ⟨rfl, rfl⟩, ?_⟩ | refine ⟨_, _, ⟨rfl, rfl⟩, ?_⟩ | refine ⟨_, (fun _ => ⟨rfl, rfl⟩), ?_⟩ | refine And.intro (a := chkPend _ _ _ _ _ _) ?_ ?_ | refine And.intro (a := chkPast _ _ _ _ _ _ _ _) ?_ ?_ | refine ⟨⟨rfl, rfl⟩, ?_⟩ | refine And.intro (And.intro rfl rfl) ?_ | refine ⟨True.intro, ?_⟩ | refine ⟨_, ⟨_, rfl, ?_, rfl, rfl, rfl⟩, ?_⟩ | refine ⟨_, rfl, ?_, rfl, ?_⟩ | refine ⟨_, (fun _ => rfl), rfl, ?_⟩ | refine ⟨(fun _ => rfl), ?_⟩ | refine ⟨rfl, ?_⟩ | refine Opt.a ?_ | fail)
      conv => whnf
      refine ⟨_, ⟨0, rfl, (by show 0 < 2; decide), rfl, rfl⟩, ?_⟩
      repeat' (first | exact True.intro | refine ⟨_, LeL.refl _, ?_⟩ | refine ⟨_, _, _, LeL.refl _, ?_⟩ | (refine fun (b : Bool) hb => ?_; cases b <;> (first | exact absurd hb (by decide) | exact Bool.noConfusion (show true = false from hb) | exact Bool.noConfusion (show false = true from hb) | skip)) | (refine fun (hl : _ ≤ MAXL) => ?_) | refine And.intro (a := I64 _) ?_ ?_ | refine And.intro (a := _ ≤ 140737488355328) ?_ ?_ | refine ⟨_, ⟨rfl, rfl⟩, ?_⟩ | refine ⟨_, And.intro (a := I64 _) ?_ ⟨rfl, rfl⟩, ?_⟩ | refine ⟨_, _, ⟨rfl, rfl⟩, ?_⟩ | refine ⟨_, (fun _ => ⟨rfl, rfl⟩), ?_⟩ | refine And.intro (a := chkPend _ _ _ _ _ _) ?_ ?_ | refine And.intro (a := chkPast _ _ _ _ _ _ _ _) ?_ ?_ | refine ⟨⟨rfl, rfl⟩, ?_⟩ | refine And.intro (And.intro rfl rfl) ?_ | refine ⟨True.intro, ?_⟩ | refine ⟨_, ⟨_, rfl, ?_, rfl, rfl, rfl⟩, ?_⟩ | refine ⟨_, rfl, ?_, rfl, ?_⟩ | refine ⟨_, (fun _ => rfl), rfl, ?_⟩ | refine ⟨(fun _ => rfl), ?_⟩ | refine ⟨rfl, ?_⟩ | refine Opt.a ?_ | fail)
      conv => whnf
      refine ⟨_, ⟨1, rfl, (by show 1 < 2; decide), rfl, rfl⟩, ?_⟩
      repeat' (first | exact True.intro | refine ⟨_, LeL.refl _, ?_⟩ | refine ⟨_, _, _, LeL.refl _, ?_⟩ | (refine fun (b : Bool) hb => ?_; cases b <;> (first | exact absurd hb (by decide) | exact Bool.noConfusion (show true = false from hb) | exact Bool.noConfusion (show false = true from hb) | skip)) | (refine fun (hl : _ ≤ MAXL) => ?_) | refine And.intro (a := I64 _) ?_ ?_ | refine And.intro (a := _ ≤ 140737488355328) ?_ ?_ | refine ⟨_, ⟨rfl, rfl⟩, ?_⟩ | refine ⟨_, And.intro (a := I64 _) ?_ ⟨rfl, rfl⟩, ?_⟩ | refine ⟨_, _, ⟨rfl, rfl⟩, ?_⟩ | refine ⟨_, (fun _ => ⟨rfl, rfl⟩), ?_⟩ | refine And.intro (a := chkPend _ _ _ _ _ _) ?_ ?_ | refine And.intro (a := chkPast _ _ _ _ _ _ _ _) ?_ ?_ | refine ⟨⟨rfl, rfl⟩, ?_⟩ | refine And.intro (And.intro rfl rfl) ?_ | refine ⟨True.intro, ?_⟩ | refine ⟨_, ⟨_, rfl, ?_, rfl, rfl, rfl⟩, ?_⟩ | refine ⟨_, rfl, ?_, rfl, ?_⟩ | refine ⟨_, (fun _ => rfl), rfl, ?_⟩ | refine ⟨(fun _ => rfl), ?_⟩ | refine ⟨rfl, ?_⟩ | refine Opt.a ?_ | fail)
      · exact ⟨(), (by (refine wk_auto ?_; refine Sel4.mk rfl rfl ?_ ?_ <;> (repeat' (first | exact True.intro | exact rfl | exact Or.inl rfl | exact Or.inr rfl | refine And.intro ?_ ?_ | fail)))), trivial⟩
      have hxy : x ≠ y := by
        have h : (!decide ((x.toNat : Int) = (y.toNat : Int))) = true := by assumption
        intro e
        rw [e] at h
        simp at h
      conv => whnf
      refine ⟨_, ⟨0, rfl, (by show 0 < 2; decide), rfl, rfl⟩, ?_⟩
      repeat' (first | exact True.intro | refine ⟨_, LeL.refl _, ?_⟩ | refine ⟨_, _, _, LeL.refl _, ?_⟩ | (refine fun (b : Bool) hb => ?_; cases b <;> (first | exact absurd hb (by decide) | exact Bool.noConfusion (show true = false from hb) | exact Bool.noConfusion (show false = true from hb) | skip)) | (refine fun (hl : _ ≤ MAXL) => ?_) | refine And.intro (a := I64 _) ?_ ?_ | refine And.intro (a := _ ≤ 140737488355328) ?_ ?_ | refine ⟨_, ⟨rfl, rfl⟩, ?_⟩ | refine ⟨_, And.intro (a := I64 _) ?_ ⟨rfl, rfl⟩, ?_⟩ | refine ⟨_, _, ⟨rfl, rfl⟩, ?_⟩ | refine ⟨_, (fun _ => ⟨rfl, rfl⟩), ?_⟩ | refine And.intro (a := chkPend _ _ _ _ _ _) ?_ ?_ | refine And.intro (a := chkPast _ _ _ _ _ _ _ _) ?_ ?_ | refine ⟨⟨rfl, rfl⟩, ?_⟩ | refine And.intro (And.intro rfl rfl) ?_ | refine ⟨True.intro, ?_⟩ | refine ⟨_, ⟨_, rfl, ?_, rfl, rfl, rfl⟩, ?_⟩ | refine ⟨_, rfl, ?_, rfl, ?_⟩ | refine ⟨_, (fun _ => rfl), rfl, ?_⟩ | refine ⟨(fun _ => rfl), ?_⟩ | refine ⟨rfl, ?_⟩ | refine Opt.a ?_ | fail)
      apply Exists.intro
      apply And.intro
      · refine ⟨X, x, rfl, ?_⟩
        exact ⟨rfl, rfl⟩
      rw [hXX hxy]
      repeat' (first | exact True.intro | refine ⟨_, LeL.refl _, ?_⟩ | refine ⟨_, _, _, LeL.refl _, ?_⟩ | (refine fun (b : Bool) hb => ?_; cases b <;> (first | exact absurd hb (by decide) | exact Bool.noConfusion (show true = false from hb) | exact Bool.noConfusion (show false = true from hb) | skip)) | (refine fun (hl : _ ≤ MAXL) => ?_) | refine And.intro (a := I64 _) ?_ ?_ | refine And.intro (a := _ ≤ 140737488355328) ?_ ?_ | refine ⟨_, ⟨rfl, rfl⟩, ?_⟩ | refine ⟨_, And.intro (a := I64 _) ?_ ⟨rfl, rfl⟩, ?_⟩ | refine ⟨_, _, ⟨rfl, rfl⟩, ?_⟩ | refine ⟨_, (fun _ => ⟨rfl, rfl⟩), ?_⟩ | refine And.intro (a := chkPend _ _ _ _ _ _) ?_ ?_ | refine And.intro (a := chkPast _ _ _ _ _ _ _ _) ?_ ?_ | refine ⟨⟨rfl, rfl⟩, ?_⟩ | refine And.intro (And.intro rfl rfl) ?_ | refine ⟨True.intro, ?_⟩ | refine ⟨_, ⟨_, rfl, ?_, rfl, rfl, rfl⟩, ?_⟩ | refine ⟨_, rfl, ?_, rfl, ?_⟩ | refine ⟨_, (fun _ => rfl), rfl, ?_⟩ | refine ⟨(fun _ => rfl), ?_⟩ | refine ⟨rfl, ?_⟩ | refine Opt.a ?_ | fail)
      exact ⟨(), (by (refine wk_auto ?_; refine Sel4.mk rfl rfl ?_ ?_ <;> (repeat' (first | exact True.intro | exact rfl | exact Or.inl rfl | exact Or.inr rfl | refine And.intro ?_ ?_ | fail)))), trivial⟩
    · repeat' (first | exact True.intro | refine ⟨_, LeL.refl _, ?_⟩ | refine ⟨_, _, _, LeL.refl _, ?_⟩ | (refine fun (b : Bool) hb => ?_; cases b <;> (first | exact absurd hb (by decide) | exact Bool.noConfusion (show true = false from hb) | exact Bool.noConfusion (show false = true from hb) | skip)) | (refine fun (hl : _ ≤ MAXL) => ?_) | refine And.intro (a := I64 _) ?_ ?_ | refine And.intro (a := _ ≤ 140737488355328) ?_ ?_ | refine ⟨_, ⟨rfl, rfl⟩, ?_⟩ | refine ⟨_, And.intro (a := I64 _) ?_ ⟨rfl, rfl⟩, ?_⟩ | refine ⟨_, _, ⟨rfl, rfl⟩, ?_⟩ | refine ⟨_, (fun _ => ⟨rfl, rfl⟩), ?_⟩ | refine And.intro (a := chkPend _ _ _ _ _ _) ?_ ?_ | refine And.intro (a := chkPast _ _ _ _ _ _ _ _) ?_ ?_ | refine ⟨⟨rfl, rfl⟩, ?_⟩ | refine And.intro (And.intro rfl rfl) ?_ | refine ⟨True.intro, ?_⟩ | refine ⟨_, ⟨_, rfl, ?_, rfl, rfl, rfl⟩, ?_⟩ | refine ⟨_, rfl, ?_, rfl, ?_⟩ | refine ⟨_, (fun _ => rfl), rfl, ?_⟩ | refine ⟨(fun _ => rfl), ?_⟩ | refine ⟨rfl, ?_⟩ | refine Opt.a ?_ | fail)
      exact ⟨(), (by (refine wk_auto ?_; refine Sel4.mk rfl rfl ?_ ?_ <;> (repeat' (first | exact True.intro | exact rfl | exact Or.inl rfl | exact Or.inr rfl | refine And.intro ?_ ?_ | fail)))), trivial⟩
    · repeat' (first | exact True.intro | refine ⟨_, LeL.refl _, ?_⟩ | refine ⟨_, _, _, LeL.refl _, ?_⟩ | (refine fun (b : Bool) hb => ?_; cases b <;> (first | exact absurd hb (by decide) | exact Bool.noConfusion (show true = false from hb) | exact Bool.noConfusion (show false = true from hb) | skip)) | (refine fun (hl : _ ≤ MAXL) => ?_) | refine And.intro (a := I64 _) ?_ ?_ | refine And.intro (a := _ ≤ 140737488355328) ?_ ?_ | refine ⟨_, ⟨rfl, rfl⟩, ?_⟩ | refine ⟨_, And.intro (a := I64 _) ?_ ⟨rfl, rfl⟩, ?_⟩ | refine ⟨_, _, ⟨rfl, rfl⟩, ?_⟩ | refine ⟨_, (fun _ => ⟨rfl, rfl⟩), ?_⟩ | refine And.intro (a := chkPend _ _ _ _ _ _) ?_ ?_ | refine And.intro (a := chkPast _ _ _ _ _ _ _ _) ?_ ?_ | refine ⟨⟨rfl, rfl⟩, ?_⟩ | refine And.intro (And.intro rfl rfl) ?_ | refine ⟨True.intro, ?_⟩ | refine ⟨_, ⟨_, rfl, ?_, rfl, rfl, rfl⟩, ?_⟩ | refine ⟨_, rfl, ?_, rfl, ?_⟩ | refine ⟨_, (fun _ => rfl), rfl, ?_⟩ | refine ⟨(fun _ => rfl), ?_⟩ | refine ⟨rfl, ?_⟩ | refine Opt.a ?_ | fail)
      refine ⟨b, rfl, by omega, ?_⟩
      repeat' (first | exact True.intro | refine ⟨_, LeL.refl _, ?_⟩ | refine ⟨_, _, _, LeL.refl _, ?_⟩ | (refine fun (b : Bool) hb => ?_; cases b <;> (first | exact absurd hb (by decide) | exact Bool.noConfusion (show true = false from hb) | exact Bool.noConfusion (show false = true from hb) | skip)) | (refine fun (hl : _ ≤ MAXL) => ?_) | refine And.intro (a := I64 _) ?_ ?_ | refine And.intro (a := _ ≤ 140737488355328) ?_ ?_ | refine ⟨_, ⟨rfl, rfl⟩, ?_⟩ | refine ⟨_, And.intro (a := I64 _) ?_ ⟨rfl, rfl⟩, ?_⟩ | refine ⟨_, _, ⟨rfl, rfl⟩, ?_⟩ | refine ⟨_, (fun _ => ⟨rfl, rfl⟩), ?_⟩ | refine And.intro (a := chkPend _ _ _ _ _ _) ?_ ?_ | refine And.intro (a := chkPast _ _ _ _ _ _ _ _) ?_ ?_ | refine ⟨⟨rfl, rfl⟩, ?_⟩ | refine And.intro (And.intro rfl rfl) ?_ | refine ⟨True.intro, ?_⟩ | refine ⟨_, ⟨_, rfl, ?_, rfl, rfl, rfl⟩, ?_⟩ | refine ⟨_, rfl, ?_, rfl, ?_⟩ | refine ⟨_, (fun _ => rfl), rfl, ?_⟩ | refine ⟨(fun _ => rfl), ?_⟩ | refine ⟨rfl, ?_⟩ | refine Opt.a ?_ | fail)
      refine ⟨Y, whole b, rfl, ?_⟩
      rw [decide_eq_true (hturn rfl)]
      repeat' (first | exact True.intro | refine ⟨_, LeL.refl _, ?_⟩ | refine ⟨_, _, _, LeL.refl _, ?_⟩ | (refine fun (b : Bool) hb => ?_; cases b <;> (first | exact absurd hb (by decide) | exact Bool.noConfusion (show true = false from hb) | exact Bool.noConfusion (show false = true from hb) | skip)) | (refine fun (hl : _ ≤ MAXL) => ?_) | refine And.intro (a := I64 _) ?_ ?_ | refine And.intro (a := _ ≤ 140737488355328) ?_ ?_ | refine ⟨_, ⟨rfl, rfl⟩, ?_⟩ | refine ⟨_, And.intro (a := I64 _) ?_ ⟨rfl, rfl⟩, ?_⟩ | refine ⟨_, _, ⟨rfl, rfl⟩, ?_⟩ | refine ⟨_, (fun _ => ⟨rfl, rfl⟩), ?_⟩ | refine And.intro (a := chkPend _ _ _ _ _ _) ?_ ?_ | refine And.intro (a := chkPast _ _ _ _ _ _ _ _) ?_ ?_ | refine ⟨⟨rfl, rfl⟩, ?_⟩ | refine And.intro (And.intro rfl rfl) ?_ | refine ⟨True.intro, ?_⟩ | refine ⟨_, ⟨_, rfl, ?_, rfl, rfl, rfl⟩, ?_⟩ | refine ⟨_, rfl, ?_, rfl, ?_⟩ | refine ⟨_, (fun _ => rfl), rfl, ?_⟩ | refine ⟨(fun _ => rfl), ?_⟩ | refine ⟨rfl, ?_⟩ | refine Opt.a ?_ | fail)
      exact ⟨(), (by (refine wk_auto ?_; refine Sel4.mk rfl rfl ?_ ?_ <;> (repeat' (first | exact True.intro | exact rfl | exact Or.inl rfl | exact Or.inr rfl | refine And.intro ?_ ?_ | fail)))), trivial⟩
    · repeat' (first | exact True.intro | refine ⟨_, LeL.refl _, ?_⟩ | refine ⟨_, _, _, LeL.refl _, ?_⟩ | (refine fun (b : Bool) hb => ?_; cases b <;> (first | exact absurd hb (by decide) | exact Bool.noConfusion (show true = false from hb) | exact Bool.noConfusion (show false = true from hb) | skip)) | (refine fun (hl : _ ≤ MAXL) => ?_) | refine And.intro (a := I64 _) ?_ ?_ | refine And.intro (a := _ ≤ 140737488355328) ?_ ?_ | refine ⟨_, ⟨rfl, rfl⟩, ?_⟩ | refine ⟨_, And.intro (a := I64 _) ?_ ⟨rfl, rfl⟩, ?_⟩ | refine ⟨_, _, ⟨rfl, rfl⟩, ?_⟩ | refine ⟨_, (fun _ => ⟨rfl, rfl⟩), ?_⟩ | refine And.intro (a := chkPend _ _ _ _ _ _) ?_ ?_ | refine And.intro (a := chkPast _ _ _ _ _ _ _ _) ?_ ?_ | refine ⟨⟨rfl, rfl⟩, ?_⟩ | refine And.intro (And.intro rfl rfl) ?_ | refine ⟨True.intro, ?_⟩ | refine ⟨_, ⟨_, rfl, ?_, rfl, rfl, rfl⟩, ?_⟩ | refine ⟨_, rfl, ?_, rfl, ?_⟩ | refine ⟨_, (fun _ => rfl), rfl, ?_⟩ | refine ⟨(fun _ => rfl), ?_⟩ | refine ⟨rfl, ?_⟩ | refine Opt.a ?_ | fail)
      refine ⟨X, Y, rfl, ?_⟩
      rw [decide_eq_true (hsame (by simp))]
      repeat' (first | exact True.intro | refine ⟨_, LeL.refl _, ?_⟩ | refine ⟨_, _, _, LeL.refl _, ?_⟩ | (refine fun (b : Bool) hb => ?_; cases b <;> (first | exact absurd hb (by decide) | exact Bool.noConfusion (show true = false from hb) | exact Bool.noConfusion (show false = true from hb) | skip)) | (refine fun (hl : _ ≤ MAXL) => ?_) | refine And.intro (a := I64 _) ?_ ?_ | refine And.intro (a := _ ≤ 140737488355328) ?_ ?_ | refine ⟨_, ⟨rfl, rfl⟩, ?_⟩ | refine ⟨_, And.intro (a := I64 _) ?_ ⟨rfl, rfl⟩, ?_⟩ | refine ⟨_, _, ⟨rfl, rfl⟩, ?_⟩ | refine ⟨_, (fun _ => ⟨rfl, rfl⟩), ?_⟩ | refine And.intro (a := chkPend _ _ _ _ _ _) ?_ ?_ | refine And.intro (a := chkPast _ _ _ _ _ _ _ _) ?_ ?_ | refine ⟨⟨rfl, rfl⟩, ?_⟩ | refine And.intro (And.intro rfl rfl) ?_ | refine ⟨True.intro, ?_⟩ | refine ⟨_, ⟨_, rfl, ?_, rfl, rfl, rfl⟩, ?_⟩ | refine ⟨_, rfl, ?_, rfl, ?_⟩ | refine ⟨_, (fun _ => rfl), rfl, ?_⟩ | refine ⟨(fun _ => rfl), ?_⟩ | refine ⟨rfl, ?_⟩ | refine Opt.a ?_ | fail)
      exact ⟨(), (by (refine wk_auto ?_; refine Sel4.mk rfl rfl ?_ ?_ <;> (repeat' (first | exact True.intro | exact rfl | exact Or.inl rfl | exact Or.inr rfl | refine And.intro ?_ ?_ | fail)))), trivial⟩
    · repeat' (first | exact True.intro | refine ⟨_, LeL.refl _, ?_⟩ | refine ⟨_, _, _, LeL.refl _, ?_⟩ | (refine fun (b : Bool) hb => ?_; cases b <;> (first | exact absurd hb (by decide) | exact Bool.noConfusion (show true = false from hb) | exact Bool.noConfusion (show false = true from hb) | skip)) | (refine fun (hl : _ ≤ MAXL) => ?_) | refine And.intro (a := I64 _) ?_ ?_ | refine And.intro (a := _ ≤ 140737488355328) ?_ ?_ | refine ⟨_, ⟨rfl, rfl⟩, ?_⟩ | refine ⟨_, And.intro (a := I64 _) ?_ ⟨rfl, rfl⟩, ?_⟩ | refine ⟨_, _, ⟨rfl, rfl⟩, ?_⟩ | refine ⟨_, (fun _ => ⟨rfl, rfl⟩), ?_⟩ | refine And.intro (a := chkPend _ _ _ _ _ _) ?_ ?_ | refine And.intro (a := chkPast _ _ _ _ _ _ _ _) ?_ ?_ | refine ⟨⟨rfl, rfl⟩, ?_⟩ | refine And.intro (And.intro rfl rfl) ?_ | refine ⟨True.intro, ?_⟩ | refine ⟨_, ⟨_, rfl, ?_, rfl, rfl, rfl⟩, ?_⟩ | refine ⟨_, rfl, ?_, rfl, ?_⟩ | refine ⟨_, (fun _ => rfl), rfl, ?_⟩ | refine ⟨(fun _ => rfl), ?_⟩ | refine ⟨rfl, ?_⟩ | refine Opt.a ?_ | fail)
      refine ⟨X, Y, rfl, ?_⟩
      rw [decide_eq_true (hsame (by simp))]
      repeat' (first | exact True.intro | refine ⟨_, LeL.refl _, ?_⟩ | refine ⟨_, _, _, LeL.refl _, ?_⟩ | (refine fun (b : Bool) hb => ?_; cases b <;> (first | exact absurd hb (by decide) | exact Bool.noConfusion (show true = false from hb) | exact Bool.noConfusion (show false = true from hb) | skip)) | (refine fun (hl : _ ≤ MAXL) => ?_) | refine And.intro (a := I64 _) ?_ ?_ | refine And.intro (a := _ ≤ 140737488355328) ?_ ?_ | refine ⟨_, ⟨rfl, rfl⟩, ?_⟩ | refine ⟨_, And.intro (a := I64 _) ?_ ⟨rfl, rfl⟩, ?_⟩ | refine ⟨_, _, ⟨rfl, rfl⟩, ?_⟩ | refine ⟨_, (fun _ => ⟨rfl, rfl⟩), ?_⟩ | refine And.intro (a := chkPend _ _ _ _ _ _) ?_ ?_ | refine And.intro (a := chkPast _ _ _ _ _ _ _ _) ?_ ?_ | refine ⟨⟨rfl, rfl⟩, ?_⟩ | refine And.intro (And.intro rfl rfl) ?_ | refine ⟨True.intro, ?_⟩ | refine ⟨_, ⟨_, rfl, ?_, rfl, rfl, rfl⟩, ?_⟩ | refine ⟨_, rfl, ?_, rfl, ?_⟩ | refine ⟨_, (fun _ => rfl), rfl, ?_⟩ | refine ⟨(fun _ => rfl), ?_⟩ | refine ⟨rfl, ?_⟩ | refine Opt.a ?_ | fail)
      exact ⟨(), (by (refine wk_auto ?_; refine Sel4.mk rfl rfl ?_ ?_ <;> (repeat' (first | exact True.intro | exact rfl | exact Or.inl rfl | exact Or.inr rfl | refine And.intro ?_ ?_ | fail)))), trivial⟩
    · repeat' (first | exact True.intro | refine ⟨_, LeL.refl _, ?_⟩ | refine ⟨_, _, _, LeL.refl _, ?_⟩ | (refine fun (b : Bool) hb => ?_; cases b <;> (first | exact absurd hb (by decide) | exact Bool.noConfusion (show true = false from hb) | exact Bool.noConfusion (show false = true from hb) | skip)) | (refine fun (hl : _ ≤ MAXL) => ?_) | refine And.intro (a := I64 _) ?_ ?_ | refine And.intro (a := _ ≤ 140737488355328) ?_ ?_ | refine ⟨_, ⟨rfl, rfl⟩, ?_⟩ | refine ⟨_, And.intro (a := I64 _) ?_ ⟨rfl, rfl⟩, ?_⟩ | refine ⟨_, _, ⟨rfl, rfl⟩, ?_⟩ | refine ⟨_, (fun _ => ⟨rfl, rfl⟩), ?_⟩ | refine And.intro (a := chkPend _ _ _ _ _ _) ?_ ?_ | refine And.intro (a := chkPast _ _ _ _ _ _ _ _) ?_ ?_ | refine ⟨⟨rfl, rfl⟩, ?_⟩ | refine And.intro (And.intro rfl rfl) ?_ | refine ⟨True.intro, ?_⟩ | refine ⟨_, ⟨_, rfl, ?_, rfl, rfl, rfl⟩, ?_⟩ | refine ⟨_, rfl, ?_, rfl, ?_⟩ | refine ⟨_, (fun _ => rfl), rfl, ?_⟩ | refine ⟨(fun _ => rfl), ?_⟩ | refine ⟨rfl, ?_⟩ | refine Opt.a ?_ | fail)
      exact ⟨(), (by (refine wk_auto ?_; refine Sel4.mk rfl rfl ?_ ?_ <;> (repeat' (first | exact True.intro | exact rfl | exact Or.inl rfl | exact Or.inr rfl | refine And.intro ?_ ?_ | fail)))), trivial⟩
    · repeat' (first | exact True.intro | refine ⟨_, LeL.refl _, ?_⟩ | refine ⟨_, _, _, LeL.refl _, ?_⟩ | (refine fun (b : Bool) hb => ?_; cases b <;> (first | exact absurd hb (by decide) | exact Bool.noConfusion (show true = false from hb) | exact Bool.noConfusion (show false = true from hb) | skip)) | (refine fun (hl : _ ≤ MAXL) => ?_) | refine And.intro (a := I64 _) ?_ ?_ | refine And.intro (a := _ ≤ 140737488355328) ?_ ?_ | refine ⟨_, ⟨rfl, rfl⟩, ?_⟩ | refine ⟨_, And.intro (a := I64 _) ?_ ⟨rfl, rfl⟩, ?_⟩ | refine ⟨_, _, ⟨rfl, rfl⟩, ?_⟩ | refine ⟨_, (fun _ => ⟨rfl, rfl⟩), ?_⟩ | refine And.intro (a := chkPend _ _ _ _ _ _) ?_ ?_ | refine And.intro (a := chkPast _ _ _ _ _ _ _ _) ?_ ?_ | refine ⟨⟨rfl, rfl⟩, ?_⟩ | refine And.intro (And.intro rfl rfl) ?_ | refine ⟨True.intro, ?_⟩ | refine ⟨_, ⟨_, rfl, ?_, rfl, rfl, rfl⟩, ?_⟩ | refine ⟨_, rfl, ?_, rfl, ?_⟩ | refine ⟨_, (fun _ => rfl), rfl, ?_⟩ | refine ⟨(fun _ => rfl), ?_⟩ | refine ⟨rfl, ?_⟩ | refine Opt.a ?_ | fail)
      refine ⟨X, Y, rfl, ?_⟩
      rw [decide_eq_true (hsame (by simp))]
      repeat' (first | exact True.intro | refine ⟨_, LeL.refl _, ?_⟩ | refine ⟨_, _, _, LeL.refl _, ?_⟩ | (refine fun (b : Bool) hb => ?_; cases b <;> (first | exact absurd hb (by decide) | exact Bool.noConfusion (show true = false from hb) | exact Bool.noConfusion (show false = true from hb) | skip)) | (refine fun (hl : _ ≤ MAXL) => ?_) | refine And.intro (a := I64 _) ?_ ?_ | refine And.intro (a := _ ≤ 140737488355328) ?_ ?_ | refine ⟨_, ⟨rfl, rfl⟩, ?_⟩ | refine ⟨_, And.intro (a := I64 _) ?_ ⟨rfl, rfl⟩, ?_⟩ | refine ⟨_, _, ⟨rfl, rfl⟩, ?_⟩ | refine ⟨_, (fun _ => ⟨rfl, rfl⟩), ?_⟩ | refine And.intro (a := chkPend _ _ _ _ _ _) ?_ ?_ | refine And.intro (a := chkPast _ _ _ _ _ _ _ _) ?_ ?_ | refine ⟨⟨rfl, rfl⟩, ?_⟩ | refine And.intro (And.intro rfl rfl) ?_ | refine ⟨True.intro, ?_⟩ | refine ⟨_, ⟨_, rfl, ?_, rfl, rfl, rfl⟩, ?_⟩ | refine ⟨_, rfl, ?_, rfl, ?_⟩ | refine ⟨_, (fun _ => rfl), rfl, ?_⟩ | refine ⟨(fun _ => rfl), ?_⟩ | refine ⟨rfl, ?_⟩ | refine Opt.a ?_ | fail)
      exact ⟨(), (by (refine wk_auto ?_; refine Sel4.mk rfl rfl ?_ ?_ <;> (repeat' (first | exact True.intro | exact rfl | exact Or.inl rfl | exact Or.inr rfl | refine And.intro ?_ ?_ | fail)))), trivial⟩
    · repeat' (first | exact True.intro | refine ⟨_, LeL.refl _, ?_⟩ | refine ⟨_, _, _, LeL.refl _, ?_⟩ | (refine fun (b : Bool) hb => ?_; cases b <;> (first | exact absurd hb (by decide) | exact Bool.noConfusion (show true = false from hb) | exact Bool.noConfusion (show false = true from hb) | skip)) | (refine fun (hl : _ ≤ MAXL) => ?_) | refine And.intro (a := I64 _) ?_ ?_ | refine And.intro (a := _ ≤ 140737488355328) ?_ ?_ | refine ⟨_, ⟨rfl, rfl⟩, ?_⟩ | refine ⟨_, And.intro (a := I64 _) ?_ ⟨rfl, rfl⟩, ?_⟩ | refine ⟨_, _, ⟨rfl, rfl⟩, ?_⟩ | refine ⟨_, (fun _ => ⟨rfl, rfl⟩), ?_⟩ | refine And.intro (a := chkPend _ _ _ _ _ _) ?_ ?_ | refine And.intro (a := chkPast _ _ _ _ _ _ _ _) ?_ ?_ | refine ⟨⟨rfl, rfl⟩, ?_⟩ | refine And.intro (And.intro rfl rfl) ?_ | refine ⟨True.intro, ?_⟩ | refine ⟨_, ⟨_, rfl, ?_, rfl, rfl, rfl⟩, ?_⟩ | refine ⟨_, rfl, ?_, rfl, ?_⟩ | refine ⟨_, (fun _ => rfl), rfl, ?_⟩ | refine ⟨(fun _ => rfl), ?_⟩ | refine ⟨rfl, ?_⟩ | refine Opt.a ?_ | fail)
      refine ⟨X, Y, rfl, ?_⟩
      rw [decide_eq_true (hsame (by simp))]
      repeat' (first | exact True.intro | refine ⟨_, LeL.refl _, ?_⟩ | refine ⟨_, _, _, LeL.refl _, ?_⟩ | (refine fun (b : Bool) hb => ?_; cases b <;> (first | exact absurd hb (by decide) | exact Bool.noConfusion (show true = false from hb) | exact Bool.noConfusion (show false = true from hb) | skip)) | (refine fun (hl : _ ≤ MAXL) => ?_) | refine And.intro (a := I64 _) ?_ ?_ | refine And.intro (a := _ ≤ 140737488355328) ?_ ?_ | refine ⟨_, ⟨rfl, rfl⟩, ?_⟩ | refine ⟨_, And.intro (a := I64 _) ?_ ⟨rfl, rfl⟩, ?_⟩ | refine ⟨_, _, ⟨rfl, rfl⟩, ?_⟩ | refine ⟨_, (fun _ => ⟨rfl, rfl⟩), ?_⟩ | refine And.intro (a := chkPend _ _ _ _ _ _) ?_ ?_ | refine And.intro (a := chkPast _ _ _ _ _ _ _ _) ?_ ?_ | refine ⟨⟨rfl, rfl⟩, ?_⟩ | refine And.intro (And.intro rfl rfl) ?_ | refine ⟨True.intro, ?_⟩ | refine ⟨_, ⟨_, rfl, ?_, rfl, rfl, rfl⟩, ?_⟩ | refine ⟨_, rfl, ?_, rfl, ?_⟩ | refine ⟨_, (fun _ => rfl), rfl, ?_⟩ | refine ⟨(fun _ => rfl), ?_⟩ | refine ⟨rfl, ?_⟩ | refine Opt.a ?_ | fail)
      exact ⟨(), (by (refine wk_auto ?_; refine Sel4.mk rfl rfl ?_ ?_ <;> (repeat' (first | exact True.intro | exact rfl | exact Or.inl rfl | exact Or.inr rfl | refine And.intro ?_ ?_ | fail)))), trivial⟩
  repeat' (first | exact True.intro | refine ⟨_, LeL.refl _, ?_⟩ | refine ⟨_, _, _, LeL.refl _, ?_⟩ | (refine fun (b : Bool) hb => ?_; cases b <;> (first | exact absurd hb (by decide) | exact Bool.noConfusion (show true = false from hb) | exact Bool.noConfusion (show false = true from hb) | skip)) | (refine fun (hl : _ ≤ MAXL) => ?_) | refine And.intro (a := I64 _) ?_ ?_ | refine And.intro (a := _ ≤ 140737488355328) ?_ ?_ | refine ⟨_, ⟨rfl, rfl⟩, ?_⟩ | refine ⟨_, And.intro (a := I64 _) ?_ ⟨rfl, rfl⟩, ?_⟩ | refine ⟨_, _, ⟨rfl, rfl⟩, ?_⟩ | refine ⟨_, (fun _ => ⟨rfl, rfl⟩), ?_⟩ | refine And.intro (a := chkPend _ _ _ _ _ _) ?_ ?_ | refine And.intro (a := chkPast _ _ _ _ _ _ _ _) ?_ ?_ | refine ⟨⟨rfl, rfl⟩, ?_⟩ | refine And.intro (And.intro rfl rfl) ?_ | refine ⟨True.intro, ?_⟩ | refine ⟨_, ⟨_, rfl, ?_, rfl, rfl, rfl⟩, ?_⟩ | refine ⟨_, rfl, ?_, rfl, ?_⟩ | refine ⟨_, (fun _ => rfl), rfl, ?_⟩ | refine ⟨(fun _ => rfl), ?_⟩ | refine ⟨rfl, ?_⟩ | refine Opt.a ?_ | fail)
  refine ⟨b, rfl, ?_⟩
  have hof : lineOf b = (L, 0) := by unfold lineOf; rw [if_neg (by omega), hL]
  rw [hof]
  repeat' (first | exact True.intro | refine ⟨_, LeL.refl _, ?_⟩ | refine ⟨_, _, _, LeL.refl _, ?_⟩ | (refine fun (b : Bool) hb => ?_; cases b <;> (first | exact absurd hb (by decide) | exact Bool.noConfusion (show true = false from hb) | exact Bool.noConfusion (show false = true from hb) | skip)) | (refine fun (hl : _ ≤ MAXL) => ?_) | refine And.intro (a := I64 _) ?_ ?_ | refine And.intro (a := _ ≤ 140737488355328) ?_ ?_ | refine ⟨_, ⟨rfl, rfl⟩, ?_⟩ | refine ⟨_, And.intro (a := I64 _) ?_ ⟨rfl, rfl⟩, ?_⟩ | refine ⟨_, _, ⟨rfl, rfl⟩, ?_⟩ | refine ⟨_, (fun _ => ⟨rfl, rfl⟩), ?_⟩ | refine And.intro (a := chkPend _ _ _ _ _ _) ?_ ?_ | refine And.intro (a := chkPast _ _ _ _ _ _ _ _) ?_ ?_ | refine ⟨⟨rfl, rfl⟩, ?_⟩ | refine And.intro (And.intro rfl rfl) ?_ | refine ⟨True.intro, ?_⟩ | refine ⟨_, ⟨_, rfl, ?_, rfl, rfl, rfl⟩, ?_⟩ | refine ⟨_, rfl, ?_, rfl, ?_⟩ | refine ⟨_, (fun _ => rfl), rfl, ?_⟩ | refine ⟨(fun _ => rfl), ?_⟩ | refine ⟨rfl, ?_⟩ | refine Opt.a ?_ | fail)
  · (first | omega | (unfold I64; omega) | (simp only [List.length_append, List.length_map, List.length_cons, List.length_nil, Nat.mul_one, Int.ofNat_eq_natCast] at *; omega) | (dsimp only at *; omega) | (unfold I64; dsimp only at *; omega) | (unfold I64; grind) | grind)
  have hat := Int.emod_nonneg k (show (L.length : Int) + 1 ≠ 0 by omega)
  have hat2 := Int.emod_lt_of_pos k (show 0 < (L.length : Int) + 1 by omega)
  refine ⟨k, (L.length : Int) + 1, rfl, ⟨hk, by omega, by omega⟩, ?_⟩
  obtain ⟨m, hm⟩ : ∃ m : Nat, k % ((L.length : Int) + 1) = (m : Int) := ⟨(k % ((L.length : Int) + 1)).toNat, by omega⟩
  rw [hm]
  have hmL : m ≤ L.length := by omega
  repeat' (first | exact True.intro | refine ⟨_, LeL.refl _, ?_⟩ | refine ⟨_, _, _, LeL.refl _, ?_⟩ | (refine fun (b : Bool) hb => ?_; cases b <;> (first | exact absurd hb (by decide) | exact Bool.noConfusion (show true = false from hb) | exact Bool.noConfusion (show false = true from hb) | skip)) | (refine fun (hl : _ ≤ MAXL) => ?_) | refine And.intro (a := I64 _) ?_ ?_ | refine And.intro (a := _ ≤ 140737488355328) ?_ ?_ | refine ⟨_, ⟨rfl, rfl⟩, ?_⟩ | refine ⟨_, And.intro (a := I64 _) ?_ ⟨rfl, rfl⟩, ?_⟩ | refine ⟨_, _, ⟨rfl, rfl⟩, ?_⟩ | refine ⟨_, (fun _ => ⟨rfl, rfl⟩), ?_⟩ | refine And.intro (a := chkPend _ _ _ _ _ _) ?_ ?_ | refine And.intro (a := chkPast _ _ _ _ _ _ _ _) ?_ ?_ | refine ⟨⟨rfl, rfl⟩, ?_⟩ | refine And.intro (And.intro rfl rfl) ?_ | refine ⟨True.intro, ?_⟩ | refine ⟨_, ⟨_, rfl, ?_, rfl, rfl, rfl⟩, ?_⟩ | refine ⟨_, rfl, ?_, rfl, ?_⟩ | refine ⟨_, (fun _ => rfl), rfl, ?_⟩ | refine ⟨(fun _ => rfl), ?_⟩ | refine ⟨rfl, ?_⟩ | refine Opt.a ?_ | fail)
  conv => whnf
  refine ⟨_, ⟨fun _ => rfl, m, rfl, hmL, rfl, rfl⟩, ?_⟩
  repeat' (first | exact True.intro | refine ⟨_, LeL.refl _, ?_⟩ | refine ⟨_, _, _, LeL.refl _, ?_⟩ | (refine fun (b : Bool) hb => ?_; cases b <;> (first | exact absurd hb (by decide) | exact Bool.noConfusion (show true = false from hb) | exact Bool.noConfusion (show false = true from hb) | skip)) | (refine fun (hl : _ ≤ MAXL) => ?_) | refine And.intro (a := I64 _) ?_ ?_ | refine And.intro (a := _ ≤ 140737488355328) ?_ ?_ | refine ⟨_, ⟨rfl, rfl⟩, ?_⟩ | refine ⟨_, And.intro (a := I64 _) ?_ ⟨rfl, rfl⟩, ?_⟩ | refine ⟨_, _, ⟨rfl, rfl⟩, ?_⟩ | refine ⟨_, (fun _ => ⟨rfl, rfl⟩), ?_⟩ | refine And.intro (a := chkPend _ _ _ _ _ _) ?_ ?_ | refine And.intro (a := chkPast _ _ _ _ _ _ _ _) ?_ ?_ | refine ⟨⟨rfl, rfl⟩, ?_⟩ | refine And.intro (And.intro rfl rfl) ?_ | refine ⟨True.intro, ?_⟩ | refine ⟨_, ⟨_, rfl, ?_, rfl, rfl, rfl⟩, ?_⟩ | refine ⟨_, rfl, ?_, rfl, ?_⟩ | refine ⟨_, (fun _ => rfl), rfl, ?_⟩ | refine ⟨(fun _ => rfl), ?_⟩ | refine ⟨rfl, ?_⟩ | refine Opt.a ?_ | fail)
  conv => whnf
  refine ⟨_, ⟨fun _ => rfl, m, rfl, hmL, rfl, rfl⟩, ?_⟩
  repeat' (first | exact True.intro | refine ⟨_, LeL.refl _, ?_⟩ | refine ⟨_, _, _, LeL.refl _, ?_⟩ | (refine fun (b : Bool) hb => ?_; cases b <;> (first | exact absurd hb (by decide) | exact Bool.noConfusion (show true = false from hb) | exact Bool.noConfusion (show false = true from hb) | skip)) | (refine fun (hl : _ ≤ MAXL) => ?_) | refine And.intro (a := I64 _) ?_ ?_ | refine And.intro (a := _ ≤ 140737488355328) ?_ ?_ | refine ⟨_, ⟨rfl, rfl⟩, ?_⟩ | refine ⟨_, And.intro (a := I64 _) ?_ ⟨rfl, rfl⟩, ?_⟩ | refine ⟨_, _, ⟨rfl, rfl⟩, ?_⟩ | refine ⟨_, (fun _ => ⟨rfl, rfl⟩), ?_⟩ | refine And.intro (a := chkPend _ _ _ _ _ _) ?_ ?_ | refine And.intro (a := chkPast _ _ _ _ _ _ _ _) ?_ ?_ | refine ⟨⟨rfl, rfl⟩, ?_⟩ | refine And.intro (And.intro rfl rfl) ?_ | refine ⟨True.intro, ?_⟩ | refine ⟨_, ⟨_, rfl, ?_, rfl, rfl, rfl⟩, ?_⟩ | refine ⟨_, rfl, ?_, rfl, ?_⟩ | refine ⟨_, (fun _ => rfl), rfl, ?_⟩ | refine ⟨(fun _ => rfl), ?_⟩ | refine ⟨rfl, ?_⟩ | refine Opt.a ?_ | fail)
  conv => whnf
  refine ⟨_, ⟨List Bs, lsV, [L.drop m, L.take m], LeL.refl _, rfl, rfl⟩, ?_⟩
  repeat' (first | exact True.intro | refine ⟨_, LeL.refl _, ?_⟩ | refine ⟨_, _, _, LeL.refl _, ?_⟩ | (refine fun (b : Bool) hb => ?_; cases b <;> (first | exact absurd hb (by decide) | exact Bool.noConfusion (show true = false from hb) | exact Bool.noConfusion (show false = true from hb) | skip)) | (refine fun (hl : _ ≤ MAXL) => ?_) | refine And.intro (a := I64 _) ?_ ?_ | refine And.intro (a := _ ≤ 140737488355328) ?_ ?_ | refine ⟨_, ⟨rfl, rfl⟩, ?_⟩ | refine ⟨_, And.intro (a := I64 _) ?_ ⟨rfl, rfl⟩, ?_⟩ | refine ⟨_, _, ⟨rfl, rfl⟩, ?_⟩ | refine ⟨_, (fun _ => ⟨rfl, rfl⟩), ?_⟩ | refine And.intro (a := chkPend _ _ _ _ _ _) ?_ ?_ | refine And.intro (a := chkPast _ _ _ _ _ _ _ _) ?_ ?_ | refine ⟨⟨rfl, rfl⟩, ?_⟩ | refine And.intro (And.intro rfl rfl) ?_ | refine ⟨True.intro, ?_⟩ | refine ⟨_, ⟨_, rfl, ?_, rfl, rfl, rfl⟩, ?_⟩ | refine ⟨_, rfl, ?_, rfl, ?_⟩ | refine ⟨_, (fun _ => rfl), rfl, ?_⟩ | refine ⟨(fun _ => rfl), ?_⟩ | refine ⟨rfl, ?_⟩ | refine Opt.a ?_ | fail)
  have hrf : [L.drop m, L.take m].flatten = L.drop m ++ L.take m := by simp
  have hrp := rot_perm L m
  have hrl : (L.drop m ++ L.take m).length = L.length := hrp.length_eq
  apply Exists.intro
  apply And.intro
  · refine ⟨[L.drop m, L.take m], rfl, by rw [hrf, hrl]; omega, ?_⟩
    exact ⟨rfl, rfl⟩
  rw [hrf]
  repeat' (first | exact True.intro | refine ⟨_, LeL.refl _, ?_⟩ | refine ⟨_, _, _, LeL.refl _, ?_⟩ | (refine fun (b : Bool) hb => ?_; cases b <;> (first | exact absurd hb (by decide) | exact Bool.noConfusion (show true = false from hb) | exact Bool.noConfusion (show false = true from hb) | skip)) | (refine fun (hl : _ ≤ MAXL) => ?_) | refine And.intro (a := I64 _) ?_ ?_ | refine And.intro (a := _ ≤ 140737488355328) ?_ ?_ | refine ⟨_, ⟨rfl, rfl⟩, ?_⟩ | refine ⟨_, And.intro (a := I64 _) ?_ ⟨rfl, rfl⟩, ?_⟩ | refine ⟨_, _, ⟨rfl, rfl⟩, ?_⟩ | refine ⟨_, (fun _ => ⟨rfl, rfl⟩), ?_⟩ | refine And.intro (a := chkPend _ _ _ _ _ _) ?_ ?_ | refine And.intro (a := chkPast _ _ _ _ _ _ _ _) ?_ ?_ | refine ⟨⟨rfl, rfl⟩, ?_⟩ | refine And.intro (And.intro rfl rfl) ?_ | refine ⟨True.intro, ?_⟩ | refine ⟨_, ⟨_, rfl, ?_, rfl, rfl, rfl⟩, ?_⟩ | refine ⟨_, rfl, ?_, rfl, ?_⟩ | refine ⟨_, (fun _ => rfl), rfl, ?_⟩ | refine ⟨(fun _ => rfl), ?_⟩ | refine ⟨rfl, ?_⟩ | refine Opt.a ?_ | fail)
  have hrn : NoNl (L.drop m ++ L.take m) := noNl_perm hrp hLn
  have hrs : (put (L.drop m ++ L.take m)).length ≤ 2001 := by rw [put_perm hrp]; exact hLp
  have hrb : lineBytes (L.drop m ++ L.take m) = (put (L.drop m ++ L.take m), 0) := lineBytes_ok hrn (by omega)
  apply Exists.intro
  apply And.intro
  · refine ⟨L.drop m ++ L.take m, rfl, fun s hs => by
      have := put_len_el hs
      have : s.length ≤ 2001 := by omega
      exact Nat.le_trans this (by decide), ?_⟩
    rw [hrb]
    exact ⟨rfl, rfl⟩
  repeat' (first | exact True.intro | refine ⟨_, LeL.refl _, ?_⟩ | refine ⟨_, _, _, LeL.refl _, ?_⟩ | (refine fun (b : Bool) hb => ?_; cases b <;> (first | exact absurd hb (by decide) | exact Bool.noConfusion (show true = false from hb) | exact Bool.noConfusion (show false = true from hb) | skip)) | (refine fun (hl : _ ≤ MAXL) => ?_) | refine And.intro (a := I64 _) ?_ ?_ | refine And.intro (a := _ ≤ 140737488355328) ?_ ?_ | refine ⟨_, ⟨rfl, rfl⟩, ?_⟩ | refine ⟨_, And.intro (a := I64 _) ?_ ⟨rfl, rfl⟩, ?_⟩ | refine ⟨_, _, ⟨rfl, rfl⟩, ?_⟩ | refine ⟨_, (fun _ => ⟨rfl, rfl⟩), ?_⟩ | refine And.intro (a := chkPend _ _ _ _ _ _) ?_ ?_ | refine And.intro (a := chkPast _ _ _ _ _ _ _ _) ?_ ?_ | refine ⟨⟨rfl, rfl⟩, ?_⟩ | refine And.intro (And.intro rfl rfl) ?_ | refine ⟨True.intro, ?_⟩ | refine ⟨_, ⟨_, rfl, ?_, rfl, rfl, rfl⟩, ?_⟩ | refine ⟨_, rfl, ?_, rfl, ?_⟩ | refine ⟨_, (fun _ => rfl), rfl, ?_⟩ | refine ⟨(fun _ => rfl), ?_⟩ | refine ⟨rfl, ?_⟩ | refine Opt.a ?_ | fail)
  have h61 : linesC ⟨6, [], 0⟩ L = sortB L := rfl
  have h62 : linesC ⟨6, [], 0⟩ (L.drop m ++ L.take m) = sortB L := sortB_congr hrp
  refine ⟨⟨6, [], 0⟩, b, rfl, ?_⟩
  rw [doC_at (by decide) (by omega), hL, h61]
  repeat' (first | exact True.intro | refine ⟨_, LeL.refl _, ?_⟩ | refine ⟨_, _, _, LeL.refl _, ?_⟩ | (refine fun (b : Bool) hb => ?_; cases b <;> (first | exact absurd hb (by decide) | exact Bool.noConfusion (show true = false from hb) | exact Bool.noConfusion (show false = true from hb) | skip)) | (refine fun (hl : _ ≤ MAXL) => ?_) | refine And.intro (a := I64 _) ?_ ?_ | refine And.intro (a := _ ≤ 140737488355328) ?_ ?_ | refine ⟨_, ⟨rfl, rfl⟩, ?_⟩ | refine ⟨_, And.intro (a := I64 _) ?_ ⟨rfl, rfl⟩, ?_⟩ | refine ⟨_, _, ⟨rfl, rfl⟩, ?_⟩ | refine ⟨_, (fun _ => ⟨rfl, rfl⟩), ?_⟩ | refine And.intro (a := chkPend _ _ _ _ _ _) ?_ ?_ | refine And.intro (a := chkPast _ _ _ _ _ _ _ _) ?_ ?_ | refine ⟨⟨rfl, rfl⟩, ?_⟩ | refine And.intro (And.intro rfl rfl) ?_ | refine ⟨True.intro, ?_⟩ | refine ⟨_, ⟨_, rfl, ?_, rfl, rfl, rfl⟩, ?_⟩ | refine ⟨_, rfl, ?_, rfl, ?_⟩ | refine ⟨_, (fun _ => rfl), rfl, ?_⟩ | refine ⟨(fun _ => rfl), ?_⟩ | refine ⟨rfl, ?_⟩ | refine Opt.a ?_ | fail)
  refine ⟨⟨6, [], 0⟩, put (L.drop m ++ L.take m), rfl, ?_⟩
  rw [doC_at (by decide) (by omega), linesOf_put hrn, h62]
  repeat' (first | exact True.intro | refine ⟨_, LeL.refl _, ?_⟩ | refine ⟨_, _, _, LeL.refl _, ?_⟩ | (refine fun (b : Bool) hb => ?_; cases b <;> (first | exact absurd hb (by decide) | exact Bool.noConfusion (show true = false from hb) | exact Bool.noConfusion (show false = true from hb) | skip)) | (refine fun (hl : _ ≤ MAXL) => ?_) | refine And.intro (a := I64 _) ?_ ?_ | refine And.intro (a := _ ≤ 140737488355328) ?_ ?_ | refine ⟨_, ⟨rfl, rfl⟩, ?_⟩ | refine ⟨_, And.intro (a := I64 _) ?_ ⟨rfl, rfl⟩, ?_⟩ | refine ⟨_, _, ⟨rfl, rfl⟩, ?_⟩ | refine ⟨_, (fun _ => ⟨rfl, rfl⟩), ?_⟩ | refine And.intro (a := chkPend _ _ _ _ _ _) ?_ ?_ | refine And.intro (a := chkPast _ _ _ _ _ _ _ _) ?_ ?_ | refine ⟨⟨rfl, rfl⟩, ?_⟩ | refine And.intro (And.intro rfl rfl) ?_ | refine ⟨True.intro, ?_⟩ | refine ⟨_, ⟨_, rfl, ?_, rfl, rfl, rfl⟩, ?_⟩ | refine ⟨_, rfl, ?_, rfl, ?_⟩ | refine ⟨_, (fun _ => rfl), rfl, ?_⟩ | refine ⟨(fun _ => rfl), ?_⟩ | refine ⟨rfl, ?_⟩ | refine Opt.a ?_ | fail)
  refine ⟨put (sortB L), put (sortB L), rfl, ?_⟩
  repeat' (first | exact True.intro | refine ⟨_, LeL.refl _, ?_⟩ | refine ⟨_, _, _, LeL.refl _, ?_⟩ | (refine fun (b : Bool) hb => ?_; cases b <;> (first | exact absurd hb (by decide) | exact Bool.noConfusion (show true = false from hb) | exact Bool.noConfusion (show false = true from hb) | skip)) | (refine fun (hl : _ ≤ MAXL) => ?_) | refine And.intro (a := I64 _) ?_ ?_ | refine And.intro (a := _ ≤ 140737488355328) ?_ ?_ | refine ⟨_, ⟨rfl, rfl⟩, ?_⟩ | refine ⟨_, And.intro (a := I64 _) ?_ ⟨rfl, rfl⟩, ?_⟩ | refine ⟨_, _, ⟨rfl, rfl⟩, ?_⟩ | refine ⟨_, (fun _ => ⟨rfl, rfl⟩), ?_⟩ | refine And.intro (a := chkPend _ _ _ _ _ _) ?_ ?_ | refine And.intro (a := chkPast _ _ _ _ _ _ _ _) ?_ ?_ | refine ⟨⟨rfl, rfl⟩, ?_⟩ | refine And.intro (And.intro rfl rfl) ?_ | refine ⟨True.intro, ?_⟩ | refine ⟨_, ⟨_, rfl, ?_, rfl, rfl, rfl⟩, ?_⟩ | refine ⟨_, rfl, ?_, rfl, ?_⟩ | refine ⟨_, (fun _ => rfl), rfl, ?_⟩ | refine ⟨(fun _ => rfl), ?_⟩ | refine ⟨rfl, ?_⟩ | refine Opt.a ?_ | fail)
  exact hK _ (congrArg V.bool (decide_eq_true rfl))
end Gv
namespace Gv
variable [Glob] [Laid]
theorem opn_cmd : Opn Tryd.prog 23 cmdV (fun _ => True) := ⟨fun en w fuel cs d p h hw => by
  have hl : cs.length = 3 := (opn_width Tryd.underlying23 h).trans (by kernel_rfl)
  obtain ⟨k, _, f1⟩ := opn_field 0 0 1 (T := 3) Tryd.underlying23 rfl rfl rfl (by kernel_rfl) (opn_int Tryd.underlying3) h hw
  obtain ⟨s, _, f2⟩ := opn_field 1 1 1 (T := 9) Tryd.underlying23 rfl rfl rfl (by kernel_rfl) (opn_str Tryd.underlying9) h hw
  obtain ⟨n, _, f3⟩ := opn_field 2 2 1 (T := 3) Tryd.underlying23 rfl rfl rfl (by kernel_rfl) (opn_int Tryd.underlying3) h hw
  have := Fit.cons 0 1 f1 rfl (Fit.cons 1 2 f2 rfl (Fit.cons 2 3 f3 rfl (Fit.last 3 hl)))
  rw [List.drop_zero] at this
  exact ⟨⟨k, s, n⟩, trivial, this⟩⟩
end Gv
namespace Gv
variable [Glob] [Laid] [Nums]
def cmdCells (c : Cmd) : List V := [.int .i64 c.kind, .str c.word, .int .i64 c.n]
def cTwiceT_S : Spec := fun args K => ∃ (c : Cmd) (b : Bs) (k : Int), args = [.agg (cmdCells c), .sl byteV b, .int .i64 k] ∧ (b.length ≤ 140737488355328 ∧ I64 k) ∧ K (.bool true)
theorem cTwiceT_ok : Pure Tryd.prog 3 cTwiceT_S := by
  intro w m args us k a1 a2 a3 a4
  obtain ⟨c, a, b, rfl, a5, a6⟩ := a4
  exact cTwice_ok w m _ us k a1 a2 a3 ⟨c, a, b, rfl, a5, a6⟩
theorem opn_cmdC : Opn Tryd.prog 23 (fun c => .agg (cmdCells c)) (fun _ => True) := opn_cmd
end Gv
