/- LineSays, as it is given: for every input the law returns true, and each argument reads as it did; the row's condition is what the card ties: the listed variables hold what the program's text lays. -/
import Derived.Test.YtffljdmmambdjaaDoorF2
import Derived.Test.YtffljdmmambdjaaDoorCards
import Derived.Test.YtffljdmmambdjaaDoorTie
import Derived.ProofKit
import Derived.OpenShut
import Derived.ChangeOld
import Derived.Below
import Derived.SizedLaws
import Derived.LaidMore
import Derived.Lay
import Derived.SevenTiedAt
set_option linter.unusedVariables false
set_option linter.unusedSimpArgs false
namespace Go.Proofs.YtffljdmmambdjaaDoor
open Go.Proofs Go.RowKit
open Go.ChangeShapes Go.WideShapes Go.ChangeAt

theorem ownLineSays : ownKnob Tryd.prog.godebug = none := by kernel_rfl
theorem laidOutLineSays : laidOutB Tryd.prog = true := by kernel_rfl
set_option maxRecDepth 100000 in
theorem liftedLineSays (os : Os) (started : os.Started) (H : Type) (enc : TypeId × Value → H) :
    ReturnsInHanded {} Tryd.checked os 4 .any (fun w args => (Rows.lineSaysSpec.pre enc Tryd.prog Tryd.f4 Rows.lineSaysRow.domain false w args ∧ laidMetH Tryd.prog Rows.lineSaysRow.laid w) ∧ sizedMet enc Tryd.prog Tryd.f4 (OpenSpec.ofChange Rows.lineSaysSpec) false w args) (Rows.lineSaysSpec.post enc Tryd.prog Tryd.f4 false true false false) := by
  refine Gv.returns_both (C := Tryd.checked) (X := fun w _ => laidMetH Tryd.prog Rows.lineSaysRow.laid w) (fun _ _ _ hh h => h.of_heap hh) ownLineSays started (by kernel_rfl) Tryd.func4
    (ChangeSpec.witness_shaped (enc := enc) (C := Tryd.checked) (os := os) (X := fun w _ => laidMetH Tryd.prog Rows.lineSaysRow.laid w) false (World.laidAll Tryd.prog os Rows.lineSaysRow.laid) #[(.slice none 0 0), (.slice none 0 0), (.int .i64 0)] 8 (World.laidAll_os _ _ _)
      (World.shaped_of_ZipB (by kernel_rfl) (by kernel_rfl)) (by kernel_rfl) (by kernel_rfl) (by kernel_rfl)
      (by rw [MakeChecks.laidMetH_plain _ _ _ (by kernel_rfl)]; exact laidMet_laidAll _ (by kernel_rfl) (by kernel_rfl))) ?_
  intro W base args ds gs before hval0 hW hsz0 hL hsh
  have hval : ∀ (j : Nat) t v, Tryd.f4.params[j]? = some t → args[j]? = some v → Value.okWide Tryd.prog W .any base t v := hval0
  have hsz : (DataW.weightsEach Tryd.prog (Tryd.f4.params.toList ++ []) (ds ++ gs)).all (· ≤ reachBytes) = true := hsz0
  clear hsz0
  rw [MakeChecks.laidMetH_plain _ _ _ (by kernel_rfl)] at hL
  letI : Gv.Glob := Gv.worldGlob W
  haveI : Gv.Laid := ⟨Gv.all_int (P := Tryd.prog) hsh (g := 0) (t := 3) (zero := #[.int .i64 0]) (of_decide_eq_true (by kernel_rfl)) (by kernel_rfl) rfl (by kernel_rfl) (by kernel_rfl) Tryd.underlying3⟩
  have hW' := hW
  obtain ⟨p, q, hA0, hV, rfl, hfz, hnd⟩ := hW
  have hA : DataW.TrodAll enc Tryd.prog W 0 (fun _ => true) true Tryd.f4.params.toList args.toList ds p := hA0
  rw [Tryd.params4] at hA hval hsz
  obtain ⟨v0, vs0, d0, ds0, p0, q0, hargs, rfl, rfl, k0, r0⟩ := trodAll_cons hA
  obtain ⟨v1, vs1, d1, ds1, p1, q1, rfl, rfl, rfl, k1, r1⟩ := trodAll_cons r0
  obtain ⟨v2, vs2, d2, ds2, p2, q2, rfl, rfl, rfl, k2, r2⟩ := trodAll_cons r1
  obtain ⟨rfl, rfl, rfl⟩ := trodAll_nil r2
  obtain rfl : args = #[v0, v1, v2] := by cases args; simp_all
  obtain ⟨rfl, rfl⟩ := trodVars_none hV
  have lt0 : ∀ x ∈ p0, x.block < W.heap.size := by obtain ⟨m, hm⟩ := k0; exact DataW.trod_lt m _ _ _ hm
  have lt1 : ∀ x ∈ p1, x.block < W.heap.size := by obtain ⟨m, hm⟩ := k1; exact DataW.trod_lt m _ _ _ hm
  have lt2 : ∀ x ∈ p2, x.block < W.heap.size := by obtain ⟨m, hm⟩ := k2; exact DataW.trod_lt m _ _ _ hm
  have wt0 : ∀ n ∈ d0.weights Tryd.prog 37, n ≤ reachBytes := fun n hn => by simpa using List.all_eq_true.1 hsz n (DataW.weights_mem_each (j := 0) rfl rfl n hn)
  have wt1 : ∀ n ∈ d1.weights Tryd.prog 22, n ≤ reachBytes := fun n hn => by simpa using List.all_eq_true.1 hsz n (DataW.weights_mem_each (j := 1) rfl rfl n hn)
  have wt2 : ∀ n ∈ d2.weights Tryd.prog 3, n ≤ reachBytes := fun n hn => by simpa using List.all_eq_true.1 hsz n (DataW.weights_mem_each (j := 2) rfl rfl n hn)
  obtain ⟨a0, I0, g0⟩ := Gv.arg_slice Tryd.underlying37 (hval 0 37 v0 rfl rfl) (Gv.opn_slice (k := 1) Tryd.underlying37 (by kernel_rfl) (by omega) (Gv.opn_byte Tryd.underlying5)) k0 wt0
  obtain ⟨a1, I1, g1⟩ := Gv.arg_slice Tryd.underlying22 (hval 1 22 v1 rfl rfl) (Gv.opn_slice (k := 1) Tryd.underlying22 (by kernel_rfl) (by omega) (Gv.opn_str Tryd.underlying9)) k1 wt1
  obtain ⟨a2, I2, g2⟩ := Gv.arg_int Tryd.underlying3 (hval 2 3 v2 rfl rfl) (Gv.opn_int Tryd.underlying3) (fun _ => rfl) k2 wt2
  clear hA0 hval0
  refine (Gv.law_calls Gv.lSaysT_ok W (Gv.worldGlob_le W) rfl (Gv.vr_cons g0 (Gv.vr_cons g1 (Gv.vr_cons g2 Gv.vr_nil))) ⟨a0, a1, a2, rfl, I1.1, rfl⟩).mono fun e W' ⟨he, bel0⟩ => ?_
  have bel := bel0.below
  subst he
  exact ⟨_, rfl, _, _, _, [], _, [], hW', trodAll_mk1 (shut_bool Tryd.underlying4 _), (trodAll_cons_mk (Below.trod laidOutLineSays (by kernel_rfl) (of_decide_eq_true (by kernel_rfl)) k0 bel lt0) (trodAll_cons_mk (Below.trod laidOutLineSays (by kernel_rfl) (of_decide_eq_true (by kernel_rfl)) k1 bel lt1) (trodAll_cons_mk (Below.trod laidOutLineSays (by kernel_rfl) (of_decide_eq_true (by kernel_rfl)) k2 bel lt2) trodAll_mk0))), rfl, bel.frame _, fun h => by cases h⟩

theorem overLineSays : Rows.lineSaysRow.holds Tryd.pinned (OpenSpec.ofChange Rows.lineSaysSpec) :=
  OpenClaim.holds_of_wide 4 Tryd.f4 rfl rfl rfl rfl rfl rfl rfl ⟨rfl, rfl, rfl, rfl, rfl⟩ rfl rfl rfl rfl rfl (by kernel_rfl) Tryd.func4 (by kernel_rfl)
    (of_decide_eq_true (by kernel_rfl)) (by unfold Func.isWrapper; first | (rw [if_pos (by decide +kernel)]; kernel_rfl) | (rw [if_neg (by decide +kernel)]; exact ⟨rfl, rfl⟩))
    (fun os started H enc _ => liftedLineSays os started H enc)

theorem provedLineSays : Rows.LineSaysCardSaid :=
  Claim7.holds_tied_plain_at .later [] [.data, .pinned] true (true, "e2661f9fa138539de65c9de8d795f00442d421449050d11dade4e2e089fc6299") true
    overLineSays (fun _ h => by cases h) (by kernel_rfl) (fun _ h => by cases h) lineSays_row_tie rfl ⟨rfl, rfl⟩ (by kernel_rfl) rfl
    (fun f fn hf hfn => by
      obtain rfl : f = 4 := Option.some.inj ((show Tryd.prog.funcNamed "gangsaw/gangsawlaw.LineSays" = some 4 by kernel_rfl).symm.trans hf) |>.symm
      obtain rfl : fn = Tryd.f4 := (Option.some.inj (Tryd.func4.symm.trans hfn)).symm
      exact ⟨by kernel_rfl, fun j t ht => by
        rw [Tryd.params4] at ht
        have hm : t ∈ [37, 22, 3] := by simpa using Array.mem_of_getElem? ht
        have hall : ([37, 22, 3].all fun u => !Tryd.prog.wantsStandIn u) = true := by kernel_rfl
        exact (show Tryd.prog.wantsStandIn t = false by simpa using List.all_eq_true.1 hall t hm)⟩)
    (by kernel_rfl)

end Go.Proofs.YtffljdmmambdjaaDoor

