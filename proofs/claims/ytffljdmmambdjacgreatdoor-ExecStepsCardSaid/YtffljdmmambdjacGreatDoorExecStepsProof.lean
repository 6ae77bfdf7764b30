/- ExecSteps, as it is given: for every input the law returns true, and each argument reads as it did; the row's condition is what the card ties: the listed variables hold what the program's text lays. -/
import Derived.Test.YtffljdmmambdjacGreatDoorF4
import Derived.Test.YtffljdmmambdjacGreatDoorCards
import Derived.Test.YtffljdmmambdjacGreatDoorTie
import Derived.ProofKit
import Derived.OpenShut
import Derived.ChangeOld
import Derived.Below
import Derived.SizedLaws
import Derived.LaidMore
import Derived.Lay
import Derived.SevenTiedAt
import Derived.Stop.LaidErr
import Derived.LaidLaws
set_option linter.unusedVariables false
set_option linter.unusedSimpArgs false
namespace Go.Proofs.YtffljdmmambdjacGreatDoor
open Go.Proofs Go.RowKit
open Go.ChangeShapes Go.WideShapes Go.ChangeAt

theorem pow10ExecSteps : Rows.laid_internal_strconv_uint64pow10 (H := Unit) = Lib.tabData .u64 Lib.pow10Tab := by kernel_rfl
theorem starExecSteps : "*" ++ "errors.errorString" = "*errors.errorString" := by decide
theorem rowErrExecSteps (u : TypeId) (h : Tryz.prog.typeName? 3 u = some "*errors.errorString") : u = 323 :=
  typeName_ptr_named (nm := "errors.errorString") (by rw [starExecSteps]; kernel_rfl) (by kernel_rfl) (by decide) u (by rw [starExecSteps]; exact h)
theorem gErrSyntaxExecSteps : Tryz.prog.globalNamed "strconv.ErrSyntax" = some 4 := by kernel_rfl
theorem tErrSyntaxExecSteps : (Tryz.prog.globals[4]?).map (·.type) = some 237 := by kernel_rfl
theorem laidErrSyntaxExecSteps {W : World} (h : laidMet Tryz.prog Rows.execStepsRow.laid W) : ∃ tp p, W.var? Tryz.prog "strconv.ErrSyntax" = some #[.iface tp p] := by
  obtain ⟨a, s, hv, -, -, -⟩ := laid_sentinel (h.tail.tail.tail.tail.tail) gErrSyntaxExecSteps tErrSyntaxExecSteps Tryz.underlying237 rowErrExecSteps Tryz.underlying323 Tryz.underlying325 rfl rfl Tryz.underlying9 (show Tryz.prog.cellsOf 325 = 1 by kernel_rfl) (show Tryz.prog.cellsOf 9 = 1 by kernel_rfl)
  exact ⟨_, _, hv⟩
theorem gErrRangeExecSteps : Tryz.prog.globalNamed "strconv.ErrRange" = some 5 := by kernel_rfl
theorem tErrRangeExecSteps : (Tryz.prog.globals[5]?).map (·.type) = some 237 := by kernel_rfl
theorem laidErrRangeExecSteps {W : World} (h : laidMet Tryz.prog Rows.execStepsRow.laid W) : ∃ tp p, W.var? Tryz.prog "strconv.ErrRange" = some #[.iface tp p] := by
  obtain ⟨a, s, hv, -, -, -⟩ := laid_sentinel (h.tail.tail.tail.tail) gErrRangeExecSteps tErrRangeExecSteps Tryz.underlying237 rowErrExecSteps Tryz.underlying323 Tryz.underlying325 rfl rfl Tryz.underlying9 (show Tryz.prog.cellsOf 325 = 1 by kernel_rfl) (show Tryz.prog.cellsOf 9 = 1 by kernel_rfl)
  exact ⟨_, _, hv⟩
theorem ownExecSteps : ownKnob Tryz.prog.godebug = none := by kernel_rfl
theorem laidOutExecSteps : laidOutB Tryz.prog = true := by kernel_rfl
set_option maxRecDepth 100000 in
theorem liftedExecSteps (os : Os) (started : os.Started) (H : Type) (enc : TypeId × Value → H) :
    ReturnsInHanded {} Tryz.checked os 9 .any (fun w args => (Rows.execStepsSpec.pre enc Tryz.prog Tryz.f9 Rows.execStepsRow.domain false w args ∧ laidMetH Tryz.prog Rows.execStepsRow.laid w) ∧ sizedMet enc Tryz.prog Tryz.f9 (OpenSpec.ofChange Rows.execStepsSpec) false w args) (Rows.execStepsSpec.post enc Tryz.prog Tryz.f9 false true false false) := by
  refine Gv.returns_both (C := Tryz.checked) (X := fun w _ => laidMetH Tryz.prog Rows.execStepsRow.laid w) (fun _ _ _ hh h => h.of_heap hh) ownExecSteps started (by kernel_rfl) Tryz.func9
    (ChangeSpec.witness_shaped (enc := enc) (C := Tryz.checked) (os := os) (X := fun w _ => laidMetH Tryz.prog Rows.execStepsRow.laid w) false (World.laidAll Tryz.prog os Rows.execStepsRow.laid) #[(.agg #[(.slice none 0 0), (.slice none 0 0), (.slice none 0 0), (.slice none 0 0), (.slice none 0 0)]), (.int .i64 0), (.agg #[(.slice none 0 0)]), (.slice none 0 0), (.int .i64 0)] 8 (World.laidAll_os _ _ _)
      (World.shaped_of_ZipB (by kernel_rfl) (by kernel_rfl)) (by kernel_rfl) (by kernel_rfl) (by kernel_rfl)
      (by rw [MakeChecks.laidMetH_plain _ _ _ (by kernel_rfl)]; exact laidMet_laidAll _ (by kernel_rfl) (by kernel_rfl))) ?_
  intro W base args ds gs before hval0 hW hsz0 hL hsh
  have hval : ∀ (j : Nat) t v, Tryz.f9.params[j]? = some t → args[j]? = some v → Value.okWide Tryz.prog W .any base t v := hval0
  have hsz : (DataW.weightsEach Tryz.prog (Tryz.f9.params.toList ++ []) (ds ++ gs)).all (· ≤ reachBytes) = true := hsz0
  clear hsz0
  rw [MakeChecks.laidMetH_plain _ _ _ (by kernel_rfl)] at hL
  letI : Gv.Glob := Gv.worldGlob W
  haveI : Gv.Laid := ⟨Gv.all_int (P := Tryz.prog) hsh (g := 0) (t := 3) (zero := #[.int .i64 0]) (of_decide_eq_true (by kernel_rfl)) (by kernel_rfl) rfl (by kernel_rfl) (by kernel_rfl) Tryz.underlying3⟩
  have hP : laidMet Tryz.prog (("internal/strconv.uint64pow10", Lib.tabData .u64 Lib.pow10Tab) :: Rows.execStepsRow.laid.drop 3) W := by
    rw [← pow10ExecSteps]
    exact hL.tail.tail
  haveI : Gv.Nums := ⟨Gv.all_tab (Lib.tabIs_of_head (g := 3) (t := 312) (by kernel_rfl) (by kernel_rfl) Tryz.underlying312 Tryz.underlying225 (by kernel_rfl) (by kernel_rfl) hP)⟩
  haveI : Gv.Errs := ⟨fun w hw => let ⟨tp, p, e⟩ := laidErrSyntaxExecSteps hL; ⟨tp, p, Gv.all_var hw e⟩, fun w hw => let ⟨tp, p, e⟩ := laidErrRangeExecSteps hL; ⟨tp, p, Gv.all_var hw e⟩⟩
  have hW' := hW
  obtain ⟨p, q, hA0, hV, rfl, hfz, hnd⟩ := hW
  have hA : DataW.TrodAll enc Tryz.prog W 0 (fun _ => true) true Tryz.f9.params.toList args.toList ds p := hA0
  rw [Tryz.params9] at hA hval hsz
  obtain ⟨v0, vs0, d0, ds0, p0, q0, hargs, rfl, rfl, k0, r0⟩ := trodAll_cons hA
  obtain ⟨v1, vs1, d1, ds1, p1, q1, rfl, rfl, rfl, k1, r1⟩ := trodAll_cons r0
  obtain ⟨v2, vs2, d2, ds2, p2, q2, rfl, rfl, rfl, k2, r2⟩ := trodAll_cons r1
  obtain ⟨v3, vs3, d3, ds3, p3, q3, rfl, rfl, rfl, k3, r3⟩ := trodAll_cons r2
  obtain ⟨v4, vs4, d4, ds4, p4, q4, rfl, rfl, rfl, k4, r4⟩ := trodAll_cons r3
  obtain ⟨rfl, rfl, rfl⟩ := trodAll_nil r4
  obtain rfl : args = #[v0, v1, v2, v3, v4] := by cases args; simp_all
  obtain ⟨rfl, rfl⟩ := trodVars_none hV
  have lt0 : ∀ x ∈ p0, x.block < W.heap.size := by obtain ⟨m, hm⟩ := k0; exact DataW.trod_lt m _ _ _ hm
  have lt1 : ∀ x ∈ p1, x.block < W.heap.size := by obtain ⟨m, hm⟩ := k1; exact DataW.trod_lt m _ _ _ hm
  have lt2 : ∀ x ∈ p2, x.block < W.heap.size := by obtain ⟨m, hm⟩ := k2; exact DataW.trod_lt m _ _ _ hm
  have lt3 : ∀ x ∈ p3, x.block < W.heap.size := by obtain ⟨m, hm⟩ := k3; exact DataW.trod_lt m _ _ _ hm
  have lt4 : ∀ x ∈ p4, x.block < W.heap.size := by obtain ⟨m, hm⟩ := k4; exact DataW.trod_lt m _ _ _ hm
  have wt0 : ∀ n ∈ d0.weights Tryz.prog 30, n ≤ reachBytes := fun n hn => by simpa using List.all_eq_true.1 hsz n (DataW.weights_mem_each (j := 0) rfl rfl n hn)
  have wt1 : ∀ n ∈ d1.weights Tryz.prog 3, n ≤ reachBytes := fun n hn => by simpa using List.all_eq_true.1 hsz n (DataW.weights_mem_each (j := 1) rfl rfl n hn)
  have wt2 : ∀ n ∈ d2.weights Tryz.prog 24, n ≤ reachBytes := fun n hn => by simpa using List.all_eq_true.1 hsz n (DataW.weights_mem_each (j := 2) rfl rfl n hn)
  have wt3 : ∀ n ∈ d3.weights Tryz.prog 25, n ≤ reachBytes := fun n hn => by simpa using List.all_eq_true.1 hsz n (DataW.weights_mem_each (j := 3) rfl rfl n hn)
  have wt4 : ∀ n ∈ d4.weights Tryz.prog 3, n ≤ reachBytes := fun n hn => by simpa using List.all_eq_true.1 hsz n (DataW.weights_mem_each (j := 4) rfl rfl n hn)
  obtain ⟨a0, I0, g0⟩ := Gv.arg_struct Tryz.underlying30 (hval 0 30 v0 rfl rfl) Gv.opn_machZ k0 wt0
  obtain ⟨a1, I1, g1⟩ := Gv.arg_int Tryz.underlying3 (hval 1 3 v1 rfl rfl) (Gv.opn_int Tryz.underlying3) (fun _ => rfl) k1 wt1
  obtain ⟨a2, I2, g2⟩ := Gv.arg_struct Tryz.underlying24 (hval 2 24 v2 rfl rfl) Gv.opn_graph k2 wt2
  obtain ⟨a3, I3, g3⟩ := Gv.arg_slice Tryz.underlying25 (hval 3 25 v3 rfl rfl) (Gv.opn_slice (k := 2) Tryz.underlying25 (by kernel_rfl) (by omega) Gv.opn_file) k3 wt3
  obtain ⟨a4, I4, g4⟩ := Gv.arg_int Tryz.underlying3 (hval 4 3 v4 rfl rfl) (Gv.opn_int Tryz.underlying3) (fun _ => rfl) k4 wt4
  clear hA0 hval0
  refine (Gv.law_calls Gv.xStepsT_ok W (Gv.worldGlob_le W) rfl (Gv.vr_cons g0 (Gv.vr_cons g1 (Gv.vr_cons g2 (Gv.vr_cons g3 (Gv.vr_cons g4 Gv.vr_nil))))) ⟨a0, a1, a2, a3, a4, rfl, I0, rfl⟩).mono fun e W' ⟨he, bel0⟩ => ?_
  have bel := bel0.below
  subst he
  exact ⟨_, rfl, _, _, _, [], _, [], hW', trodAll_mk1 (shut_bool Tryz.underlying4 _), (trodAll_cons_mk (Below.trod laidOutExecSteps (by kernel_rfl) (of_decide_eq_true (by kernel_rfl)) k0 bel lt0) (trodAll_cons_mk (Below.trod laidOutExecSteps (by kernel_rfl) (of_decide_eq_true (by kernel_rfl)) k1 bel lt1) (trodAll_cons_mk (Below.trod laidOutExecSteps (by kernel_rfl) (of_decide_eq_true (by kernel_rfl)) k2 bel lt2) (trodAll_cons_mk (Below.trod laidOutExecSteps (by kernel_rfl) (of_decide_eq_true (by kernel_rfl)) k3 bel lt3) (trodAll_cons_mk (Below.trod laidOutExecSteps (by kernel_rfl) (of_decide_eq_true (by kernel_rfl)) k4 bel lt4) trodAll_mk0))))), rfl, bel.frame _, fun h => by cases h⟩

theorem and_t {a b : Bool} (h : a = true) (k : b = true) : (a && b) = true := by rw [h, k]; rfl
theorem fact0ExecSteps : (Rows.execStepsRow.wf (OpenSpec.ofChange Rows.execStepsSpec)) = true := by kernel_rfl
theorem fact1ExecSteps : (laidOutB Tryz.prog) = true := by kernel_rfl
theorem fact2ExecSteps : (mapsRowed Tryz.prog) = true := by kernel_rfl
theorem fact3ExecSteps : (Tryz.f9.params.all (Tryz.prog.readableRec ·)) = true := by kernel_rfl
theorem fact4ExecSteps : (namedTie Tryz.prog Rows.execStepsRow.named Rows.execStepsSpec.vars) = true := by kernel_rfl
theorem fact5ExecSteps : ((Rows.execStepsRow.stops == [])) = true := by kernel_rfl
theorem fact6ExecSteps : ((Tryz.prog.stops == [])) = true := by kernel_rfl
theorem fact7ExecSteps : ((Rows.execStepsRow.knobs == [])) = true := by kernel_rfl
theorem fact8ExecSteps : ((Tryz.prog.stopKnobs == [])) = true := by kernel_rfl
theorem fact9ExecSteps : ((Rows.execStepsRow.inPlace == Tryz.prog.inPlace 9)) = true := by kernel_rfl
theorem fact10ExecSteps : ((Rows.execStepsRow.unfollowed == Tryz.prog.unfollowed 9)) = true := by kernel_rfl
theorem fact11ExecSteps : ((Rows.execStepsRow.recurses == Tryz.prog.recurses 9)) = true := by kernel_rfl
theorem fact12ExecSteps : ((Rows.execStepsRow.named == Tryz.prog.varsNamed 9)) = true := by kernel_rfl
theorem fact13ExecSteps : ((Rows.execStepsRow.maps == (Tryz.f9.params.toList ++ Rows.execStepsSpec.plain.varTypes Tryz.prog).any (Tryz.prog.mapsRec ·))) = true := by kernel_rfl
theorem fact14ExecSteps : ((Rows.execStepsRow.ifaces == (Tryz.f9.params.toList ++ Rows.execStepsSpec.plain.varTypes Tryz.prog).any (Tryz.prog.ifacesRec ·))) = true := by kernel_rfl
theorem fact15ExecSteps : ((Rows.execStepsRow.mapsOut == Tryz.prog.mapsAmong Tryz.f9.resultTypes.toList)) = true := by kernel_rfl
theorem fact16ExecSteps : ((Rows.execStepsRow.loops == (Tryz.f9.params.toList ++ Rows.execStepsSpec.plain.varTypes Tryz.prog).any (Tryz.prog.loopsFrom ·))) = true := by kernel_rfl
theorem fact17ExecSteps : ((Rows.execStepsRow.wideKeys == (Tryz.f9.params.toList ++ Rows.execStepsSpec.plain.varTypes Tryz.prog ++ Tryz.f9.resultTypes.toList).any (Tryz.prog.wideKeysFrom ·))) = true := by kernel_rfl
theorem fact18ExecSteps : (Rows.execStepsSpec.vars.all (Tryz.prog.varReadable ·)) = true := by kernel_rfl
theorem fact19ExecSteps : (Tryz.f9.resultTypes.all (fun t => Tryz.prog.readableRec t && decide (t < Tryz.prog.types.size))) = true := by kernel_rfl
theorem fact20ExecSteps : ((Rows.execStepsRow.ifacesOut == Tryz.f9.resultTypes.toList.any (Tryz.prog.ifacesRec ·))) = true := by kernel_rfl
theorem fact21ExecSteps : ((Rows.execStepsRow.loopsOut == Tryz.f9.resultTypes.toList.any (Tryz.prog.loopsFrom ·))) = true := by kernel_rfl
theorem fact22ExecSteps : ((Rows.execStepsRow.plainKeys == Tryz.prog.plainKeys)) = true := by kernel_rfl
theorem fact23ExecSteps : (Rows.execStepsRow.shortTexts.isNone) = true := by kernel_rfl
theorem fact24ExecSteps : (Tryz.prog.stopsHeard) = true := by kernel_rfl
theorem fact25ExecSteps : (Tryz.prog.mayEnter) = true := by kernel_rfl
theorem fact26ExecSteps : ((Rows.execStepsRow.lifted == Tryz.prog.liftsFinal)) = true := by kernel_rfl
theorem fact27ExecSteps : ((Tryz.prog.make == some Rows.execStepsRow.make)) = true := by kernel_rfl
theorem fact28ExecSteps : ((Rows.execStepsRow.kinds == (if Rows.execStepsRow.domain.isEmpty then [] else Tryz.f9.params.toList.map fun t => match Tryz.prog.underlying t with | some (.int k) => some k | _ => none))) = true := by kernel_rfl
theorem fact29ExecSteps : ((Rows.execStepsRow.pinned == Rows.execStepsRow.pinnedBy)) = true := by kernel_rfl
theorem fact30ExecSteps : ((Rows.execStepsRow.veiled == (Tryz.f9.params.toList ++ Rows.execStepsSpec.plain.varTypes Tryz.prog ++ Tryz.f9.resultTypes.toList).any (Tryz.prog.veiledRec ·))) = true := by kernel_rfl
theorem fact31ExecSteps : (Rows.execStepsRow.veiledFits Tryz.prog Tryz.f9.params.toList (Tryz.f9.params.toList ++ Rows.execStepsSpec.plain.varTypes Tryz.prog ++ Tryz.f9.resultTypes.toList)) = true := by kernel_rfl
set_option maxRecDepth 100000 in
theorem closedExecSteps : joinedFacts Tryz.prog 9 Tryz.f9 Rows.execStepsSpec Rows.execStepsRow = true := by
  unfold joinedFacts
  exact (and_t (and_t (and_t (and_t (and_t (and_t (and_t (and_t (and_t (and_t (and_t (and_t (and_t (and_t (and_t (and_t (and_t (and_t (and_t (and_t (and_t (and_t (and_t (and_t (and_t (and_t (and_t (and_t (and_t (and_t (and_t fact0ExecSteps fact1ExecSteps) fact2ExecSteps) fact3ExecSteps) fact4ExecSteps) fact5ExecSteps) fact6ExecSteps) fact7ExecSteps) fact8ExecSteps) fact9ExecSteps) fact10ExecSteps) fact11ExecSteps) fact12ExecSteps) fact13ExecSteps) fact14ExecSteps) fact15ExecSteps) fact16ExecSteps) fact17ExecSteps) fact18ExecSteps) fact19ExecSteps) fact20ExecSteps) fact21ExecSteps) fact22ExecSteps) fact23ExecSteps) fact24ExecSteps) fact25ExecSteps) fact26ExecSteps) fact27ExecSteps) fact28ExecSteps) fact29ExecSteps) fact30ExecSteps) fact31ExecSteps)
theorem fNamedExecSteps : Tryz.prog.funcNamed "gangsaw/gangsawlaw.ExecSteps" = some 9 := by kernel_rfl
theorem instExecSteps : Tryz.f9.isInstance Tryz.prog Rows.execStepsRow.origin Rows.execStepsRow.targs := of_decide_eq_true (by kernel_rfl)
theorem wrapExecSteps : Tryz.f9.isWrapper Tryz.prog Rows.execStepsRow.wrapper Rows.execStepsRow.mainSum := by unfold Func.isWrapper; first | (rw [if_pos (by decide +kernel)]; kernel_rfl) | (rw [if_neg (by decide +kernel)]; exact ⟨rfl, rfl⟩)
theorem overExecSteps : Rows.execStepsRow.holds Tryz.pinned (OpenSpec.ofChange Rows.execStepsSpec) :=
  OpenClaim.holds_of_wide 9 Tryz.f9 rfl rfl rfl rfl rfl rfl rfl ⟨rfl, rfl, rfl, rfl, rfl⟩ rfl rfl rfl rfl rfl fNamedExecSteps Tryz.func9 closedExecSteps instExecSteps wrapExecSteps
    (fun os started H enc _ => liftedExecSteps os started H enc)

theorem byTextExecSteps : Rows.execStepsRow.wfByText (OpenSpec.ofChange Rows.execStepsSpec) = true := by kernel_rfl
theorem mainExecSteps : Tryz.prog.mainIs = some (((true, "9ab1331a6b96b3c3520091a15f421155077d78ec8e12f48cbefae1dfb71190e2") : Bool × String).1, ((true, "9ab1331a6b96b3c3520091a15f421155077d78ec8e12f48cbefae1dfb71190e2") : Bool × String).2.toList) := by kernel_rfl
theorem looksExecSteps : true = Tryz.prog.looks [] := by kernel_rfl
theorem standExecSteps : ([30, 3, 24, 25, 3].all fun u => !Tryz.prog.wantsStandIn u) = true := by kernel_rfl
theorem goesExecSteps : false = Rows.execStepsRow.goesBy Tryz.prog := by kernel_rfl
theorem provedExecSteps : Rows.ExecStepsCardSaid :=
  Claim7.holds_tied_plain_at .later [] [.data, .data, .data, .data, .sentinel, .sentinel, .pinned] true (true, "9ab1331a6b96b3c3520091a15f421155077d78ec8e12f48cbefae1dfb71190e2") true
    overExecSteps (fun _ h => by cases h) byTextExecSteps (fun _ h => by cases h) execSteps_row_tie rfl ⟨rfl, rfl⟩ mainExecSteps rfl
    (fun f fn hf hfn => by
      obtain rfl : f = 9 := Option.some.inj (fNamedExecSteps.symm.trans hf) |>.symm
      obtain rfl : fn = Tryz.f9 := (Option.some.inj (Tryz.func9.symm.trans hfn)).symm
      exact ⟨looksExecSteps, fun j t ht => by
        rw [Tryz.params9] at ht
        have hm : t ∈ [30, 3, 24, 25, 3] := by simpa using Array.mem_of_getElem? ht
        exact (show Tryz.prog.wantsStandIn t = false by simpa using List.all_eq_true.1 standExecSteps t hm)⟩)
    goesExecSteps

end Go.Proofs.YtffljdmmambdjacGreatDoor

