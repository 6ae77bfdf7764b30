/- OptShape, as it is given: for every input the law returns true, and each argument reads as it did. No conditions. -/
import Derived.Test.YtffljdmmambdjaaL10
import Derived.Test.YtffljdmmambdjaaRows
import Derived.ProofKit
import Derived.OpenShut
import Derived.ChangeOld
import Derived.Below
import Derived.SizedLaws
set_option linter.unusedVariables false
set_option linter.unusedSimpArgs false
namespace Go.Proofs.Ytffljdmmambdjaa
open Go.Proofs Go.RowKit
open Go.ChangeShapes Go.WideShapes Go.ChangeAt

theorem ownOptShape : ownKnob Try.prog.godebug = none := by kernel_rfl
theorem laidOutOptShape : laidOutB Try.prog = true := by kernel_rfl
set_option maxRecDepth 100000 in
theorem liftedOptShape (os : Os) (started : os.Started) (H : Type) (enc : TypeId × Value → H) :
    ReturnsInHanded {} Try.checked os 6 .any (Rows.optShapeSpec.pre6 enc Try.prog Try.f6 Rows.optShapeRow.domain false) (Rows.optShapeSpec.post enc Try.prog Try.f6 false true false false) := by
  refine returnsInHanded_of_change_sized (C := Try.checked) ownOptShape started (by kernel_rfl) Try.func6
    (ChangeSpec.witness6 (enc := enc) (C := Try.checked) false ⟨#[], #[(.agg #[(.slice none 0 0), (.slice none 0 0), (.string ⟨#[]⟩)]), (.int .i64 0)], []⟩ 8 (by kernel_rfl) (by kernel_rfl) (by kernel_rfl) (by kernel_rfl)) ?_
  intro W base args ds gs before hval0 hW hcnd hsz0 _
  have hval : ∀ (j : Nat) t v, Try.f6.params[j]? = some t → args[j]? = some v → Value.okWide Try.prog W .any base t v := hval0
  have hsz : (DataW.weightsEach Try.prog (Try.f6.params.toList ++ []) (ds ++ gs)).all (· ≤ reachBytes) = true := hsz0
  clear hsz0
  letI : Gv.Glob := Gv.noGlob
  have hW' := hW
  obtain ⟨p, q, hA0, hV, rfl, hfz, hnd⟩ := hW
  have hA : DataW.TrodAll enc Try.prog W 0 (fun _ => true) true Try.f6.params.toList args.toList ds p := hA0
  rw [Try.params6] at hA hval hsz
  obtain ⟨v0, vs0, d0, ds0, p0, q0, hargs, rfl, rfl, k0, r0⟩ := trodAll_cons hA
  obtain ⟨v1, vs1, d1, ds1, p1, q1, rfl, rfl, rfl, k1, r1⟩ := trodAll_cons r0
  obtain ⟨rfl, rfl, rfl⟩ := trodAll_nil r1
  obtain rfl : args = #[v0, v1] := by cases args; simp_all
  obtain ⟨rfl, rfl⟩ := trodVars_none hV
  have lt0 : ∀ x ∈ p0, x.block < W.heap.size := by obtain ⟨m, hm⟩ := k0; exact DataW.trod_lt m _ _ _ hm
  have lt1 : ∀ x ∈ p1, x.block < W.heap.size := by obtain ⟨m, hm⟩ := k1; exact DataW.trod_lt m _ _ _ hm
  have wt0 : ∀ n ∈ d0.weights Try.prog 48, n ≤ reachBytes := fun n hn => by simpa using List.all_eq_true.1 hsz n (DataW.weights_mem_each (j := 0) rfl rfl n hn)
  have wt1 : ∀ n ∈ d1.weights Try.prog 3, n ≤ reachBytes := fun n hn => by simpa using List.all_eq_true.1 hsz n (DataW.weights_mem_each (j := 1) rfl rfl n hn)
  obtain ⟨a0, I0, g0⟩ := Gv.arg_struct Try.underlying48 (hval 0 48 v0 rfl rfl) Gv.opn_line k0 wt0
  obtain ⟨a1, I1, g1⟩ := Gv.arg_int Try.underlying3 (hval 1 3 v1 rfl rfl) (Gv.opn_int Try.underlying3) (fun _ => rfl) k1 wt1
  clear hA0 hval0
  refine (Gv.law_calls Gv.shapeT_ok W (Gv.noGlob_le _) rfl (Gv.vr_cons g0 (Gv.vr_cons g1 Gv.vr_nil)) ⟨a0, a1, rfl, rfl⟩).mono fun e W' ⟨he, bel0⟩ => ?_
  have bel := bel0.below
  subst he
  exact ⟨_, rfl, _, _, _, [], _, [], hW', trodAll_mk1 (shut_bool Try.underlying4 _), (trodAll_cons_mk (Below.trod laidOutOptShape (by kernel_rfl) (of_decide_eq_true (by kernel_rfl)) k0 bel lt0) (trodAll_cons_mk (Below.trod laidOutOptShape (by kernel_rfl) (of_decide_eq_true (by kernel_rfl)) k1 bel lt1) trodAll_mk0)), rfl, bel.frame _, fun h => by cases h⟩

theorem overOptShape : Rows.optShapeRow.holds Try.pinned (OpenSpec.ofChange Rows.optShapeSpec) :=
  OpenClaim.holds_of_wide 6 Try.f6 rfl rfl rfl rfl rfl rfl rfl ⟨rfl, rfl, rfl, rfl, rfl⟩ rfl rfl rfl rfl rfl (by kernel_rfl) Try.func6 (by kernel_rfl)
    (of_decide_eq_true (by kernel_rfl)) (by unfold Func.isWrapper; first | (rw [if_pos (by decide +kernel)]; kernel_rfl) | (rw [if_neg (by decide +kernel)]; exact ⟨rfl, rfl⟩))
    (fun os started H enc _ => liftedOptShape os started H enc)

theorem provedOptShape : Rows.OptShapeSaid := overOptShape

end Go.Proofs.Ytffljdmmambdjaa

