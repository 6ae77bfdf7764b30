/- PipeSays, as it is given: for every input the law returns true, and each argument reads as it did. No conditions. -/
import Derived.Test.YtffljdmmambdjaaPipeSays
import Derived.Test.YtffljdmmambdjaaRows
import Derived.ProofKit
import Derived.OpenShut
import Derived.ChangeOld
import Derived.Below
set_option linter.unusedVariables false
set_option linter.unusedSimpArgs false
namespace Go.Proofs.Ytffljdmmambdjaa
open Gw Go.Proofs Go.RowKit
open Go.ChangeShapes Go.WideShapes Go.ChangeAt

theorem ownPipeSays : ownKnob Try.prog.godebug = none := by kernel_rfl
theorem laidOutPipeSays : laidOutB Try.prog = true := by kernel_rfl
set_option maxRecDepth 100000 in
theorem liftedPipeSays (os : Os) (started : os.Started) (H : Type) (enc : TypeId × Value → H) :
    ReturnsInHanded {} Try.checked os 5 .any (Rows.pipeSaysSpec.pre6 enc Try.prog Try.f5 Rows.pipeSaysRow.domain false) (Rows.pipeSaysSpec.post enc Try.prog Try.f5 false true false false) := by
  refine returnsInHanded_of_change (C := Try.checked) ownPipeSays started (by kernel_rfl) Try.func5
    (ChangeSpec.witness6 (enc := enc) (C := Try.checked) false ⟨#[], #[.agg #[.slice none 0 0, .int .i64 0, .bool false, .bool false], .slice none 0 0, .int .i64 0, .int .i64 0], []⟩ 8 (by kernel_rfl) (by kernel_rfl) (by kernel_rfl) (by kernel_rfl)) ?_
  intro W base args ds gs before hval0 hW hcnd _
  have hval : ∀ (j : Nat) t v, Try.f5.params[j]? = some t → args[j]? = some v → Value.okWide Try.prog W .any base t v := hval0
  have hW' := hW
  obtain ⟨p, q, hA0, hV, rfl, hfz, hnd⟩ := hW
  have hA : DataW.TrodAll enc Try.prog W 0 (fun _ => true) true Try.f5.params.toList args.toList ds p := hA0
  rw [Try.params5] at hA hval
  obtain ⟨v0, vs0, d0, ds0, p0, q0, hargs, rfl, rfl, k0, r0⟩ := trodAll_cons hA
  obtain ⟨v1, vs1, d1, ds1, p1, q1, rfl, rfl, rfl, k1, r1⟩ := trodAll_cons r0
  obtain ⟨v2, vs2, d2, ds2, p2, q2, rfl, rfl, rfl, k2, r2⟩ := trodAll_cons r1
  obtain ⟨v3, vs3, d3, ds3, p3, q3, rfl, rfl, rfl, k3, r3⟩ := trodAll_cons r2
  obtain ⟨rfl, rfl, rfl⟩ := trodAll_nil r3
  obtain rfl : args = #[v0, v1, v2, v3] := by cases args; simp_all
  obtain ⟨rfl, rfl⟩ := trodVars_none hV
  have lt0 : ∀ x ∈ p0, x.block < W.heap.size := by obtain ⟨m, hm⟩ := k0; exact DataW.trod_lt m _ _ _ hm
  have lt1 : ∀ x ∈ p1, x.block < W.heap.size := by obtain ⟨m, hm⟩ := k1; exact DataW.trod_lt m _ _ _ hm
  have lt2 : ∀ x ∈ p2, x.block < W.heap.size := by obtain ⟨m, hm⟩ := k2; exact DataW.trod_lt m _ _ _ hm
  have lt3 : ∀ x ∈ p3, x.block < W.heap.size := by obtain ⟨m, hm⟩ := k3; exact DataW.trod_lt m _ _ _ hm
  obtain ⟨cs0, hx0, _⟩ := okWide_struct Try.underlying29 (hval 0 29 v0 rfl rfl)
  subst hx0
  obtain ⟨a0, oa0, cap0, hy0, F0, _⟩ := open_val opens_pipe k0
  obtain ⟨cs0⟩ := cs0
  simp only [Value.cells] at hy0
  subst hy0
  obtain ⟨oc1, lc1, cc1, hx1⟩ := okWide_slice Try.underlying27 (hval 1 27 v1 rfl rfl)
  subst hx1
  obtain ⟨xs1, oa1, cap1, hy1, F1⟩ := open_val (opens_slice (k := 1) (by_ := 1) Try.underlying27 (by kernel_rfl) (by omega) (opens_byte Try.underlying5)) k1
  simp [Value.cells] at hy1
  obtain ⟨rfl, rfl, rfl⟩ := hy1
  obtain ⟨x2, hx2, _, _, wf2⟩ := open_int Try.underlying3 (hval 2 3 v2 rfl rfl) k2
  subst hx2
  have I2 := wf_i64 wf2
  obtain ⟨x3, hx3, _, _, wf3⟩ := open_int Try.underlying3 (hval 3 3 v3 rfl rfl) k3
  subst hx3
  have I3 := wf_i64 wf3
  clear hA0 hval0
  refine (law_PipeSays W (all W) (all_sub W) a0 F0 xs1 F1 I2 I3).mono fun e W' ⟨he, bel0⟩ => ?_
  have bel := bel0.below
  subst he
  exact ⟨_, rfl, _, _, _, [], _, [], hW', trodAll_mk1 (shut_bool Try.underlying4 _), (trodAll_cons_mk (Below.trod laidOutPipeSays (by kernel_rfl) (of_decide_eq_true (by kernel_rfl)) k0 bel lt0) (trodAll_cons_mk (Below.trod laidOutPipeSays (by kernel_rfl) (of_decide_eq_true (by kernel_rfl)) k1 bel lt1) (trodAll_cons_mk (Below.trod laidOutPipeSays (by kernel_rfl) (of_decide_eq_true (by kernel_rfl)) k2 bel lt2) (trodAll_cons_mk (Below.trod laidOutPipeSays (by kernel_rfl) (of_decide_eq_true (by kernel_rfl)) k3 bel lt3) trodAll_mk0)))), rfl, bel.frame _, fun h => by cases h⟩

theorem overPipeSays : Rows.pipeSaysRow.holds Try.pinned (OpenSpec.ofChange Rows.pipeSaysSpec) :=
  OpenClaim.holds_of_wide 5 Try.f5 rfl rfl rfl rfl rfl rfl rfl ⟨rfl, rfl, rfl, rfl, rfl⟩ rfl rfl rfl rfl rfl (by kernel_rfl) Try.func5 (by kernel_rfl)
    (of_decide_eq_true (by kernel_rfl)) (by unfold Func.isWrapper; first | (rw [if_pos (by decide +kernel)]; kernel_rfl) | (rw [if_neg (by decide +kernel)]; exact ⟨rfl, rfl⟩))
    (fun os started H enc _ => liftedPipeSays os started H enc)

theorem provedPipeSays : Rows.PipeSaysSaid := overPipeSays

end Go.Proofs.Ytffljdmmambdjaa
