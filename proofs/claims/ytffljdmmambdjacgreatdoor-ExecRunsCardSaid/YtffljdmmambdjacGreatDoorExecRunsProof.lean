/- ExecRuns, as it is given: for every input the law returns true, and each argument reads as it did; the row's condition is what the card ties: the listed variables hold what the program's text lays. -/
import Derived.Test.YtffljdmmambdjacGreatDoorF4
import Derived.Test.YtffljdmmambdjacGreatDoorCards
import Derived.Test.YtffljdmmambdjacGreatDoorTie
import Derived.ProofKit
import Derived.OpenShut
import Derived.ChangeOld
import Derived.Below
import Derived.SizedLaws
import Derived.LaidMore
import Derived.Lay
import Derived.SevenTiedAt
import Derived.Stop.LaidErr
import Derived.LaidLaws
set_option linter.unusedVariables false
set_option linter.unusedSimpArgs false
namespace Go.Proofs.YtffljdmmambdjacGreatDoor
open Go.Proofs Go.RowKit
open Go.ChangeShapes Go.WideShapes Go.ChangeAt

theorem pow10ExecRuns : Rows.laid_internal_strconv_uint64pow10 (H := Unit) = Lib.tabData .u64 Lib.pow10Tab := by kernel_rfl
theorem starExecRuns : "*" ++ "errors.errorString" = "*errors.errorString" := by decide
theorem rowErrExecRuns (u : TypeId) (h : Tryz.prog.typeName? 3 u = some "*errors.errorString") : u = 323 :=
  typeName_ptr_named (nm := "errors.errorString") (by rw [starExecRuns]; kernel_rfl) (by kernel_rfl) (by decide) u (by rw [starExecRuns]; exact h)
theorem gErrSyntaxExecRuns : Tryz.prog.globalNamed "strconv.ErrSyntax" = some 4 := by kernel_rfl
theorem tErrSyntaxExecRuns : (Tryz.prog.globals[4]?).map (·.type) = some 237 := by kernel_rfl
theorem laidErrSyntaxExecRuns {W : World} (h : laidMet Tryz.prog Rows.execRunsRow.laid W) : ∃ tp p, W.var? Tryz.prog "strconv.ErrSyntax" = some #[.iface tp p] := by
  obtain ⟨a, s, hv, -, -, -⟩ := laid_sentinel (h.tail.tail.tail.tail.tail) gErrSyntaxExecRuns tErrSyntaxExecRuns Tryz.underlying237 rowErrExecRuns Tryz.underlying323 Tryz.underlying325 rfl rfl Tryz.underlying9 (show Tryz.prog.cellsOf 325 = 1 by kernel_rfl) (show Tryz.prog.cellsOf 9 = 1 by kernel_rfl)
  exact ⟨_, _, hv⟩
theorem gErrRangeExecRuns : Tryz.prog.globalNamed "strconv.ErrRange" = some 5 := by kernel_rfl
theorem tErrRangeExecRuns : (Tryz.prog.globals[5]?).map (·.type) = some 237 := by kernel_rfl
theorem laidErrRangeExecRuns {W : World} (h : laidMet Tryz.prog Rows.execRunsRow.laid W) : ∃ tp p, W.var? Tryz.prog "strconv.ErrRange" = some #[.iface tp p] := by
  obtain ⟨a, s, hv, -, -, -⟩ := laid_sentinel (h.tail.tail.tail.tail) gErrRangeExecRuns tErrRangeExecRuns Tryz.underlying237 rowErrExecRuns Tryz.underlying323 Tryz.underlying325 rfl rfl Tryz.underlying9 (show Tryz.prog.cellsOf 325 = 1 by kernel_rfl) (show Tryz.prog.cellsOf 9 = 1 by kernel_rfl)
  exact ⟨_, _, hv⟩
theorem ownExecRuns : ownKnob Tryz.prog.godebug = none := by kernel_rfl
theorem laidOutExecRuns : laidOutB Tryz.prog = true := by kernel_rfl
set_option maxRecDepth 100000 in
theorem liftedExecRuns (os : Os) (started : os.Started) (H : Type) (enc : TypeId × Value → H) :
    ReturnsInHanded {} Tryz.checked os 10 .any (fun w args => (Rows.execRunsSpec.pre enc Tryz.prog Tryz.f10 Rows.execRunsRow.domain false w args ∧ laidMetH Tryz.prog Rows.execRunsRow.laid w) ∧ sizedMet enc Tryz.prog Tryz.f10 (OpenSpec.ofChange Rows.execRunsSpec) false w args) (Rows.execRunsSpec.post enc Tryz.prog Tryz.f10 false true false false) := by
  refine Gv.returns_both (C := Tryz.checked) (X := fun w _ => laidMetH Tryz.prog Rows.execRunsRow.laid w) (fun _ _ _ hh h => h.of_heap hh) ownExecRuns started (by kernel_rfl) Tryz.func10
    (ChangeSpec.witness_shaped (enc := enc) (C := Tryz.checked) (os := os) (X := fun w _ => laidMetH Tryz.prog Rows.execRunsRow.laid w) false (World.laidAll Tryz.prog os Rows.execRunsRow.laid) #[(.agg #[(.slice none 0 0), (.slice none 0 0), (.slice none 0 0), (.slice none 0 0), (.slice none 0 0)]), (.slice none 0 0)] 8 (World.laidAll_os _ _ _)
      (World.shaped_of_ZipB (by kernel_rfl) (by kernel_rfl)) (by kernel_rfl) (by kernel_rfl) (by kernel_rfl)
      (by rw [MakeChecks.laidMetH_plain _ _ _ (by kernel_rfl)]; exact laidMet_laidAll _ (by kernel_rfl) (by kernel_rfl))) ?_
  intro W base args ds gs before hval0 hW hsz0 hL hsh
  have hval : ∀ (j : Nat) t v, Tryz.f10.params[j]? = some t → args[j]? = some v → Value.okWide Tryz.prog W .any base t v := hval0
  have hsz : (DataW.weightsEach Tryz.prog (Tryz.f10.params.toList ++ []) (ds ++ gs)).all (· ≤ reachBytes) = true := hsz0
  clear hsz0
  rw [MakeChecks.laidMetH_plain _ _ _ (by kernel_rfl)] at hL
  letI : Gv.Glob := Gv.worldGlob W
  haveI : Gv.Laid := ⟨Gv.all_int (P := Tryz.prog) hsh (g := 0) (t := 3) (zero := #[.int .i64 0]) (of_decide_eq_true (by kernel_rfl)) (by kernel_rfl) rfl (by kernel_rfl) (by kernel_rfl) Tryz.underlying3⟩
  have hP : laidMet Tryz.prog (("internal/strconv.uint64pow10", Lib.tabData .u64 Lib.pow10Tab) :: Rows.execRunsRow.laid.drop 3) W := by
    rw [← pow10ExecRuns]
    exact hL.tail.tail
  haveI : Gv.Nums := ⟨Gv.all_tab (Lib.tabIs_of_head (g := 3) (t := 312) (by kernel_rfl) (by kernel_rfl) Tryz.underlying312 Tryz.underlying225 (by kernel_rfl) (by kernel_rfl) hP)⟩
  haveI : Gv.Errs := ⟨fun w hw => let ⟨tp, p, e⟩ := laidErrSyntaxExecRuns hL; ⟨tp, p, Gv.all_var hw e⟩, fun w hw => let ⟨tp, p, e⟩ := laidErrRangeExecRuns hL; ⟨tp, p, Gv.all_var hw e⟩⟩
  have hW' := hW
  obtain ⟨p, q, hA0, hV, rfl, hfz, hnd⟩ := hW
  have hA : DataW.TrodAll enc Tryz.prog W 0 (fun _ => true) true Tryz.f10.params.toList args.toList ds p := hA0
  rw [Tryz.params10] at hA hval hsz
  obtain ⟨v0, vs0, d0, ds0, p0, q0, hargs, rfl, rfl, k0, r0⟩ := trodAll_cons hA
  obtain ⟨v1, vs1, d1, ds1, p1, q1, rfl, rfl, rfl, k1, r1⟩ := trodAll_cons r0
  obtain ⟨rfl, rfl, rfl⟩ := trodAll_nil r1
  obtain rfl : args = #[v0, v1] := by cases args; simp_all
  obtain ⟨rfl, rfl⟩ := trodVars_none hV
  have lt0 : ∀ x ∈ p0, x.block < W.heap.size := by obtain ⟨m, hm⟩ := k0; exact DataW.trod_lt m _ _ _ hm
  have lt1 : ∀ x ∈ p1, x.block < W.heap.size := by obtain ⟨m, hm⟩ := k1; exact DataW.trod_lt m _ _ _ hm
  have wt0 : ∀ n ∈ d0.weights Tryz.prog 30, n ≤ reachBytes := fun n hn => by simpa using List.all_eq_true.1 hsz n (DataW.weights_mem_each (j := 0) rfl rfl n hn)
  have wt1 : ∀ n ∈ d1.weights Tryz.prog 53, n ≤ reachBytes := fun n hn => by simpa using List.all_eq_true.1 hsz n (DataW.weights_mem_each (j := 1) rfl rfl n hn)
  obtain ⟨a0, I0, g0⟩ := Gv.arg_struct Tryz.underlying30 (hval 0 30 v0 rfl rfl) Gv.opn_machZ k0 wt0
  obtain ⟨a1, I1, g1⟩ := Gv.arg_slice Tryz.underlying53 (hval 1 53 v1 rfl rfl) (Gv.opn_slice (k := 1) Tryz.underlying53 (by kernel_rfl) (by omega) (Gv.opn_int Tryz.underlying3)) k1 wt1
  clear hA0 hval0
  refine (Gv.law_calls Gv.xRunsT_ok W (Gv.worldGlob_le W) rfl (Gv.vr_cons g0 (Gv.vr_cons g1 Gv.vr_nil)) ⟨a0, a1, rfl, I0, rfl⟩).mono fun e W' ⟨he, bel0⟩ => ?_
  have bel := bel0.below
  subst he
  exact ⟨_, rfl, _, _, _, [], _, [], hW', trodAll_mk1 (shut_bool Tryz.underlying4 _), (trodAll_cons_mk (Below.trod laidOutExecRuns (by kernel_rfl) (of_decide_eq_true (by kernel_rfl)) k0 bel lt0) (trodAll_cons_mk (Below.trod laidOutExecRuns (by kernel_rfl) (of_decide_eq_true (by kernel_rfl)) k1 bel lt1) trodAll_mk0)), rfl, bel.frame _, fun h => by cases h⟩

theorem and_t {a b : Bool} (h : a = true) (k : b = true) : (a && b) = true := by rw [h, k]; rfl
theorem fact0ExecRuns : (Rows.execRunsRow.wf (OpenSpec.ofChange Rows.execRunsSpec)) = true := by kernel_rfl
theorem fact1ExecRuns : (laidOutB Tryz.prog) = true := by kernel_rfl
theorem fact2ExecRuns : (mapsRowed Tryz.prog) = true := by kernel_rfl
theorem fact3ExecRuns : (Tryz.f10.params.all (Tryz.prog.readableRec ·)) = true := by kernel_rfl
theorem fact4ExecRuns : (namedTie Tryz.prog Rows.execRunsRow.named Rows.execRunsSpec.vars) = true := by kernel_rfl
theorem fact5ExecRuns : ((Rows.execRunsRow.stops == [])) = true := by kernel_rfl
theorem fact6ExecRuns : ((Tryz.prog.stops == [])) = true := by kernel_rfl
theorem fact7ExecRuns : ((Rows.execRunsRow.knobs == [])) = true := by kernel_rfl
theorem fact8ExecRuns : ((Tryz.prog.stopKnobs == [])) = true := by kernel_rfl
theorem fact9ExecRuns : ((Rows.execRunsRow.inPlace == Tryz.prog.inPlace 10)) = true := by kernel_rfl
theorem fact10ExecRuns : ((Rows.execRunsRow.unfollowed == Tryz.prog.unfollowed 10)) = true := by kernel_rfl
theorem fact11ExecRuns : ((Rows.execRunsRow.recurses == Tryz.prog.recurses 10)) = true := by kernel_rfl
theorem fact12ExecRuns : ((Rows.execRunsRow.named == Tryz.prog.varsNamed 10)) = true := by kernel_rfl
theorem fact13ExecRuns : ((Rows.execRunsRow.maps == (Tryz.f10.params.toList ++ Rows.execRunsSpec.plain.varTypes Tryz.prog).any (Tryz.prog.mapsRec ·))) = true := by kernel_rfl
theorem fact14ExecRuns : ((Rows.execRunsRow.ifaces == (Tryz.f10.params.toList ++ Rows.execRunsSpec.plain.varTypes Tryz.prog).any (Tryz.prog.ifacesRec ·))) = true := by kernel_rfl
theorem fact15ExecRuns : ((Rows.execRunsRow.mapsOut == Tryz.prog.mapsAmong Tryz.f10.resultTypes.toList)) = true := by kernel_rfl
theorem fact16ExecRuns : ((Rows.execRunsRow.loops == (Tryz.f10.params.toList ++ Rows.execRunsSpec.plain.varTypes Tryz.prog).any (Tryz.prog.loopsFrom ·))) = true := by kernel_rfl
theorem fact17ExecRuns : ((Rows.execRunsRow.wideKeys == (Tryz.f10.params.toList ++ Rows.execRunsSpec.plain.varTypes Tryz.prog ++ Tryz.f10.resultTypes.toList).any (Tryz.prog.wideKeysFrom ·))) = true := by kernel_rfl
theorem fact18ExecRuns : (Rows.execRunsSpec.vars.all (Tryz.prog.varReadable ·)) = true := by kernel_rfl
theorem fact19ExecRuns : (Tryz.f10.resultTypes.all (fun t => Tryz.prog.readableRec t && decide (t < Tryz.prog.types.size))) = true := by kernel_rfl
theorem fact20ExecRuns : ((Rows.execRunsRow.ifacesOut == Tryz.f10.resultTypes.toList.any (Tryz.prog.ifacesRec ·))) = true := by kernel_rfl
theorem fact21ExecRuns : ((Rows.execRunsRow.loopsOut == Tryz.f10.resultTypes.toList.any (Tryz.prog.loopsFrom ·))) = true := by kernel_rfl
theorem fact22ExecRuns : ((Rows.execRunsRow.plainKeys == Tryz.prog.plainKeys)) = true := by kernel_rfl
theorem fact23ExecRuns : (Rows.execRunsRow.shortTexts.isNone) = true := by kernel_rfl
theorem fact24ExecRuns : (Tryz.prog.stopsHeard) = true := by kernel_rfl
theorem fact25ExecRuns : (Tryz.prog.mayEnter) = true := by kernel_rfl
theorem fact26ExecRuns : ((Rows.execRunsRow.lifted == Tryz.prog.liftsFinal)) = true := by kernel_rfl
theorem fact27ExecRuns : ((Tryz.prog.make == some Rows.execRunsRow.make)) = true := by kernel_rfl
theorem fact28ExecRuns : ((Rows.execRunsRow.kinds == (if Rows.execRunsRow.domain.isEmpty then [] else Tryz.f10.params.toList.map fun t => match Tryz.prog.underlying t with | some (.int k) => some k | _ => none))) = true := by kernel_rfl
theorem fact29ExecRuns : ((Rows.execRunsRow.pinned == Rows.execRunsRow.pinnedBy)) = true := by kernel_rfl
theorem fact30ExecRuns : ((Rows.execRunsRow.veiled == (Tryz.f10.params.toList ++ Rows.execRunsSpec.plain.varTypes Tryz.prog ++ Tryz.f10.resultTypes.toList).any (Tryz.prog.veiledRec ·))) = true := by kernel_rfl
theorem fact31ExecRuns : (Rows.execRunsRow.veiledFits Tryz.prog Tryz.f10.params.toList (Tryz.f10.params.toList ++ Rows.execRunsSpec.plain.varTypes Tryz.prog ++ Tryz.f10.resultTypes.toList)) = true := by kernel_rfl
set_option maxRecDepth 100000 in
theorem closedExecRuns : joinedFacts Tryz.prog 10 Tryz.f10 Rows.execRunsSpec Rows.execRunsRow = true := by
  unfold joinedFacts
  exact (and_t (and_t (and_t (and_t (and_t (and_t (and_t (and_t (and_t (and_t (and_t (and_t (and_t (and_t (and_t (and_t (and_t (and_t (and_t (and_t (and_t (and_t (and_t (and_t (and_t (and_t (and_t (and_t (and_t (and_t (and_t fact0ExecRuns fact1ExecRuns) fact2ExecRuns) fact3ExecRuns) fact4ExecRuns) fact5ExecRuns) fact6ExecRuns) fact7ExecRuns) fact8ExecRuns) fact9ExecRuns) fact10ExecRuns) fact11ExecRuns) fact12ExecRuns) fact13ExecRuns) fact14ExecRuns) fact15ExecRuns) fact16ExecRuns) fact17ExecRuns) fact18ExecRuns) fact19ExecRuns) fact20ExecRuns) fact21ExecRuns) fact22ExecRuns) fact23ExecRuns) fact24ExecRuns) fact25ExecRuns) fact26ExecRuns) fact27ExecRuns) fact28ExecRuns) fact29ExecRuns) fact30ExecRuns) fact31ExecRuns)
theorem fNamedExecRuns : Tryz.prog.funcNamed "gangsaw/gangsawlaw.ExecRuns" = some 10 := by kernel_rfl
theorem instExecRuns : Tryz.f10.isInstance Tryz.prog Rows.execRunsRow.origin Rows.execRunsRow.targs := of_decide_eq_true (by kernel_rfl)
theorem wrapExecRuns : Tryz.f10.isWrapper Tryz.prog Rows.execRunsRow.wrapper Rows.execRunsRow.mainSum := by unfold Func.isWrapper; first | (rw [if_pos (by decide +kernel)]; kernel_rfl) | (rw [if_neg (by decide +kernel)]; exact ⟨rfl, rfl⟩)
theorem overExecRuns : Rows.execRunsRow.holds Tryz.pinned (OpenSpec.ofChange Rows.execRunsSpec) :=
  OpenClaim.holds_of_wide 10 Tryz.f10 rfl rfl rfl rfl rfl rfl rfl ⟨rfl, rfl, rfl, rfl, rfl⟩ rfl rfl rfl rfl rfl fNamedExecRuns Tryz.func10 closedExecRuns instExecRuns wrapExecRuns
    (fun os started H enc _ => liftedExecRuns os started H enc)

theorem byTextExecRuns : Rows.execRunsRow.wfByText (OpenSpec.ofChange Rows.execRunsSpec) = true := by kernel_rfl
theorem mainExecRuns : Tryz.prog.mainIs = some (((true, "9ab1331a6b96b3c3520091a15f421155077d78ec8e12f48cbefae1dfb71190e2") : Bool × String).1, ((true, "9ab1331a6b96b3c3520091a15f421155077d78ec8e12f48cbefae1dfb71190e2") : Bool × String).2.toList) := by kernel_rfl
theorem looksExecRuns : true = Tryz.prog.looks [] := by kernel_rfl
theorem standExecRuns : ([30, 53].all fun u => !Tryz.prog.wantsStandIn u) = true := by kernel_rfl
theorem goesExecRuns : false = Rows.execRunsRow.goesBy Tryz.prog := by kernel_rfl
theorem provedExecRuns : Rows.ExecRunsCardSaid :=
  Claim7.holds_tied_plain_at .later [] [.data, .data, .data, .data, .sentinel, .sentinel, .pinned] true (true, "9ab1331a6b96b3c3520091a15f421155077d78ec8e12f48cbefae1dfb71190e2") true
    overExecRuns (fun _ h => by cases h) byTextExecRuns (fun _ h => by cases h) execRuns_row_tie rfl ⟨rfl, rfl⟩ mainExecRuns rfl
    (fun f fn hf hfn => by
      obtain rfl : f = 10 := Option.some.inj (fNamedExecRuns.symm.trans hf) |>.symm
      obtain rfl : fn = Tryz.f10 := (Option.some.inj (Tryz.func10.symm.trans hfn)).symm
      exact ⟨looksExecRuns, fun j t ht => by
        rw [Tryz.params10] at ht
        have hm : t ∈ [30, 53] := by simpa using Array.mem_of_getElem? ht
        exact (show Tryz.prog.wantsStandIn t = false by simpa using List.all_eq_true.1 standExecRuns t hm)⟩)
    goesExecRuns

end Go.Proofs.YtffljdmmambdjacGreatDoor

