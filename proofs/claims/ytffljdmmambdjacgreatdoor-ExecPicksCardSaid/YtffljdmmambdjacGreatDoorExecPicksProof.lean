/- ExecPicks, as it is given: for every input the law returns true, and each argument reads as it did; the row's condition is what the card ties: the listed variables hold what the program's text lays. -/
import Derived.Test.YtffljdmmambdjacGreatDoorF3
import Derived.Test.YtffljdmmambdjacGreatDoorCards
import Derived.Test.YtffljdmmambdjacGreatDoorTie
import Derived.ProofKit
import Derived.OpenShut
import Derived.ChangeOld
import Derived.Below
import Derived.SizedLaws
import Derived.LaidMore
import Derived.Lay
import Derived.SevenTiedAt
import Derived.Stop.LaidErr
import Derived.LaidLaws
set_option linter.unusedVariables false
set_option linter.unusedSimpArgs false
namespace Go.Proofs.YtffljdmmambdjacGreatDoor
open Go.Proofs Go.RowKit
open Go.ChangeShapes Go.WideShapes Go.ChangeAt

theorem pow10ExecPicks : Rows.laid_internal_strconv_uint64pow10 (H := Unit) = Lib.tabData .u64 Lib.pow10Tab := by kernel_rfl
theorem starExecPicks : "*" ++ "errors.errorString" = "*errors.errorString" := by decide
theorem rowErrExecPicks (u : TypeId) (h : Tryz.prog.typeName? 3 u = some "*errors.errorString") : u = 323 :=
  typeName_ptr_named (nm := "errors.errorString") (by rw [starExecPicks]; kernel_rfl) (by kernel_rfl) (by decide) u (by rw [starExecPicks]; exact h)
theorem gErrSyntaxExecPicks : Tryz.prog.globalNamed "strconv.ErrSyntax" = some 4 := by kernel_rfl
theorem tErrSyntaxExecPicks : (Tryz.prog.globals[4]?).map (·.type) = some 237 := by kernel_rfl
theorem laidErrSyntaxExecPicks {W : World} (h : laidMet Tryz.prog Rows.execPicksRow.laid W) : ∃ tp p, W.var? Tryz.prog "strconv.ErrSyntax" = some #[.iface tp p] := by
  obtain ⟨a, s, hv, -, -, -⟩ := laid_sentinel (h.tail.tail.tail.tail.tail) gErrSyntaxExecPicks tErrSyntaxExecPicks Tryz.underlying237 rowErrExecPicks Tryz.underlying323 Tryz.underlying325 rfl rfl Tryz.underlying9 (show Tryz.prog.cellsOf 325 = 1 by kernel_rfl) (show Tryz.prog.cellsOf 9 = 1 by kernel_rfl)
  exact ⟨_, _, hv⟩
theorem gErrRangeExecPicks : Tryz.prog.globalNamed "strconv.ErrRange" = some 5 := by kernel_rfl
theorem tErrRangeExecPicks : (Tryz.prog.globals[5]?).map (·.type) = some 237 := by kernel_rfl
theorem laidErrRangeExecPicks {W : World} (h : laidMet Tryz.prog Rows.execPicksRow.laid W) : ∃ tp p, W.var? Tryz.prog "strconv.ErrRange" = some #[.iface tp p] := by
  obtain ⟨a, s, hv, -, -, -⟩ := laid_sentinel (h.tail.tail.tail.tail) gErrRangeExecPicks tErrRangeExecPicks Tryz.underlying237 rowErrExecPicks Tryz.underlying323 Tryz.underlying325 rfl rfl Tryz.underlying9 (show Tryz.prog.cellsOf 325 = 1 by kernel_rfl) (show Tryz.prog.cellsOf 9 = 1 by kernel_rfl)
  exact ⟨_, _, hv⟩
theorem ownExecPicks : ownKnob Tryz.prog.godebug = none := by kernel_rfl
theorem laidOutExecPicks : laidOutB Tryz.prog = true := by kernel_rfl
set_option maxRecDepth 100000 in
theorem liftedExecPicks (os : Os) (started : os.Started) (H : Type) (enc : TypeId × Value → H) :
    ReturnsInHanded {} Tryz.checked os 8 .any (fun w args => (Rows.execPicksSpec.pre enc Tryz.prog Tryz.f8 Rows.execPicksRow.domain false w args ∧ laidMetH Tryz.prog Rows.execPicksRow.laid w) ∧ sizedMet enc Tryz.prog Tryz.f8 (OpenSpec.ofChange Rows.execPicksSpec) false w args) (Rows.execPicksSpec.post enc Tryz.prog Tryz.f8 false true false false) := by
  refine Gv.returns_both (C := Tryz.checked) (X := fun w _ => laidMetH Tryz.prog Rows.execPicksRow.laid w) (fun _ _ _ hh h => h.of_heap hh) ownExecPicks started (by kernel_rfl) Tryz.func8
    (ChangeSpec.witness_shaped (enc := enc) (C := Tryz.checked) (os := os) (X := fun w _ => laidMetH Tryz.prog Rows.execPicksRow.laid w) false (World.laidAll Tryz.prog os Rows.execPicksRow.laid) #[(.agg #[(.slice none 0 0), (.slice none 0 0), (.string ⟨#[]⟩)]), (.int .i64 0), (.slice none 0 0), (.slice none 0 0), (.slice none 0 0), (.int .i64 0)] 8 (World.laidAll_os _ _ _)
      (World.shaped_of_ZipB (by kernel_rfl) (by kernel_rfl)) (by kernel_rfl) (by kernel_rfl) (by kernel_rfl)
      (by rw [MakeChecks.laidMetH_plain _ _ _ (by kernel_rfl)]; exact laidMet_laidAll _ (by kernel_rfl) (by kernel_rfl))) ?_
  intro W base args ds gs before hval0 hW hsz0 hL hsh
  have hval : ∀ (j : Nat) t v, Tryz.f8.params[j]? = some t → args[j]? = some v → Value.okWide Tryz.prog W .any base t v := hval0
  have hsz : (DataW.weightsEach Tryz.prog (Tryz.f8.params.toList ++ []) (ds ++ gs)).all (· ≤ reachBytes) = true := hsz0
  clear hsz0
  rw [MakeChecks.laidMetH_plain _ _ _ (by kernel_rfl)] at hL
  letI : Gv.Glob := Gv.worldGlob W
  haveI : Gv.Laid := ⟨Gv.all_int (P := Tryz.prog) hsh (g := 0) (t := 3) (zero := #[.int .i64 0]) (of_decide_eq_true (by kernel_rfl)) (by kernel_rfl) rfl (by kernel_rfl) (by kernel_rfl) Tryz.underlying3⟩
  have hP : laidMet Tryz.prog (("internal/strconv.uint64pow10", Lib.tabData .u64 Lib.pow10Tab) :: Rows.execPicksRow.laid.drop 3) W := by
    rw [← pow10ExecPicks]
    exact hL.tail.tail
  haveI : Gv.Nums := ⟨Gv.all_tab (Lib.tabIs_of_head (g := 3) (t := 312) (by kernel_rfl) (by kernel_rfl) Tryz.underlying312 Tryz.underlying225 (by kernel_rfl) (by kernel_rfl) hP)⟩
  haveI : Gv.Errs := ⟨fun w hw => let ⟨tp, p, e⟩ := laidErrSyntaxExecPicks hL; ⟨tp, p, Gv.all_var hw e⟩, fun w hw => let ⟨tp, p, e⟩ := laidErrRangeExecPicks hL; ⟨tp, p, Gv.all_var hw e⟩⟩
  have hW' := hW
  obtain ⟨p, q, hA0, hV, rfl, hfz, hnd⟩ := hW
  have hA : DataW.TrodAll enc Tryz.prog W 0 (fun _ => true) true Tryz.f8.params.toList args.toList ds p := hA0
  rw [Tryz.params8] at hA hval hsz
  obtain ⟨v0, vs0, d0, ds0, p0, q0, hargs, rfl, rfl, k0, r0⟩ := trodAll_cons hA
  obtain ⟨v1, vs1, d1, ds1, p1, q1, rfl, rfl, rfl, k1, r1⟩ := trodAll_cons r0
  obtain ⟨v2, vs2, d2, ds2, p2, q2, rfl, rfl, rfl, k2, r2⟩ := trodAll_cons r1
  obtain ⟨v3, vs3, d3, ds3, p3, q3, rfl, rfl, rfl, k3, r3⟩ := trodAll_cons r2
  obtain ⟨v4, vs4, d4, ds4, p4, q4, rfl, rfl, rfl, k4, r4⟩ := trodAll_cons r3
  obtain ⟨v5, vs5, d5, ds5, p5, q5, rfl, rfl, rfl, k5, r5⟩ := trodAll_cons r4
  obtain ⟨rfl, rfl, rfl⟩ := trodAll_nil r5
  obtain rfl : args = #[v0, v1, v2, v3, v4, v5] := by cases args; simp_all
  obtain ⟨rfl, rfl⟩ := trodVars_none hV
  have lt0 : ∀ x ∈ p0, x.block < W.heap.size := by obtain ⟨m, hm⟩ := k0; exact DataW.trod_lt m _ _ _ hm
  have lt1 : ∀ x ∈ p1, x.block < W.heap.size := by obtain ⟨m, hm⟩ := k1; exact DataW.trod_lt m _ _ _ hm
  have lt2 : ∀ x ∈ p2, x.block < W.heap.size := by obtain ⟨m, hm⟩ := k2; exact DataW.trod_lt m _ _ _ hm
  have lt3 : ∀ x ∈ p3, x.block < W.heap.size := by obtain ⟨m, hm⟩ := k3; exact DataW.trod_lt m _ _ _ hm
  have lt4 : ∀ x ∈ p4, x.block < W.heap.size := by obtain ⟨m, hm⟩ := k4; exact DataW.trod_lt m _ _ _ hm
  have lt5 : ∀ x ∈ p5, x.block < W.heap.size := by obtain ⟨m, hm⟩ := k5; exact DataW.trod_lt m _ _ _ hm
  have wt0 : ∀ n ∈ d0.weights Tryz.prog 68, n ≤ reachBytes := fun n hn => by simpa using List.all_eq_true.1 hsz n (DataW.weights_mem_each (j := 0) rfl rfl n hn)
  have wt1 : ∀ n ∈ d1.weights Tryz.prog 3, n ≤ reachBytes := fun n hn => by simpa using List.all_eq_true.1 hsz n (DataW.weights_mem_each (j := 1) rfl rfl n hn)
  have wt2 : ∀ n ∈ d2.weights Tryz.prog 25, n ≤ reachBytes := fun n hn => by simpa using List.all_eq_true.1 hsz n (DataW.weights_mem_each (j := 2) rfl rfl n hn)
  have wt3 : ∀ n ∈ d3.weights Tryz.prog 53, n ≤ reachBytes := fun n hn => by simpa using List.all_eq_true.1 hsz n (DataW.weights_mem_each (j := 3) rfl rfl n hn)
  have wt4 : ∀ n ∈ d4.weights Tryz.prog 53, n ≤ reachBytes := fun n hn => by simpa using List.all_eq_true.1 hsz n (DataW.weights_mem_each (j := 4) rfl rfl n hn)
  have wt5 : ∀ n ∈ d5.weights Tryz.prog 3, n ≤ reachBytes := fun n hn => by simpa using List.all_eq_true.1 hsz n (DataW.weights_mem_each (j := 5) rfl rfl n hn)
  obtain ⟨a0, I0, g0⟩ := Gv.arg_struct Tryz.underlying68 (hval 0 68 v0 rfl rfl) Gv.opn_line k0 wt0
  obtain ⟨a1, I1, g1⟩ := Gv.arg_int Tryz.underlying3 (hval 1 3 v1 rfl rfl) (Gv.opn_int Tryz.underlying3) (fun _ => rfl) k1 wt1
  obtain ⟨a2, I2, g2⟩ := Gv.arg_slice Tryz.underlying25 (hval 2 25 v2 rfl rfl) (Gv.opn_slice (k := 2) Tryz.underlying25 (by kernel_rfl) (by omega) Gv.opn_file) k2 wt2
  obtain ⟨a3, I3, g3⟩ := Gv.arg_slice Tryz.underlying53 (hval 3 53 v3 rfl rfl) (Gv.opn_slice (k := 1) Tryz.underlying53 (by kernel_rfl) (by omega) (Gv.opn_int Tryz.underlying3)) k3 wt3
  obtain ⟨a4, I4, g4⟩ := Gv.arg_slice Tryz.underlying53 (hval 4 53 v4 rfl rfl) (Gv.opn_slice (k := 1) Tryz.underlying53 (by kernel_rfl) (by omega) (Gv.opn_int Tryz.underlying3)) k4 wt4
  obtain ⟨a5, I5, g5⟩ := Gv.arg_int Tryz.underlying3 (hval 5 3 v5 rfl rfl) (Gv.opn_int Tryz.underlying3) (fun _ => rfl) k5 wt5
  clear hA0 hval0
  refine (Gv.law_calls Gv.xPicksT_ok W (Gv.worldGlob_le W) rfl (Gv.vr_cons g0 (Gv.vr_cons g1 (Gv.vr_cons g2 (Gv.vr_cons g3 (Gv.vr_cons g4 (Gv.vr_cons g5 Gv.vr_nil)))))) ⟨a0, a1, a2, a3, a4, a5, rfl, I5, rfl⟩).mono fun e W' ⟨he, bel0⟩ => ?_
  have bel := bel0.below
  subst he
  exact ⟨_, rfl, _, _, _, [], _, [], hW', trodAll_mk1 (shut_bool Tryz.underlying4 _), (trodAll_cons_mk (Below.trod laidOutExecPicks (by kernel_rfl) (of_decide_eq_true (by kernel_rfl)) k0 bel lt0) (trodAll_cons_mk (Below.trod laidOutExecPicks (by kernel_rfl) (of_decide_eq_true (by kernel_rfl)) k1 bel lt1) (trodAll_cons_mk (Below.trod laidOutExecPicks (by kernel_rfl) (of_decide_eq_true (by kernel_rfl)) k2 bel lt2) (trodAll_cons_mk (Below.trod laidOutExecPicks (by kernel_rfl) (of_decide_eq_true (by kernel_rfl)) k3 bel lt3) (trodAll_cons_mk (Below.trod laidOutExecPicks (by kernel_rfl) (of_decide_eq_true (by kernel_rfl)) k4 bel lt4) (trodAll_cons_mk (Below.trod laidOutExecPicks (by kernel_rfl) (of_decide_eq_true (by kernel_rfl)) k5 bel lt5) trodAll_mk0)))))), rfl, bel.frame _, fun h => by cases h⟩

theorem and_t {a b : Bool} (h : a = true) (k : b = true) : (a && b) = true := by rw [h, k]; rfl
theorem fact0ExecPicks : (Rows.execPicksRow.wf (OpenSpec.ofChange Rows.execPicksSpec)) = true := by kernel_rfl
theorem fact1ExecPicks : (laidOutB Tryz.prog) = true := by kernel_rfl
theorem fact2ExecPicks : (mapsRowed Tryz.prog) = true := by kernel_rfl
theorem fact3ExecPicks : (Tryz.f8.params.all (Tryz.prog.readableRec ·)) = true := by kernel_rfl
theorem fact4ExecPicks : (namedTie Tryz.prog Rows.execPicksRow.named Rows.execPicksSpec.vars) = true := by kernel_rfl
theorem fact5ExecPicks : ((Rows.execPicksRow.stops == [])) = true := by kernel_rfl
theorem fact6ExecPicks : ((Tryz.prog.stops == [])) = true := by kernel_rfl
theorem fact7ExecPicks : ((Rows.execPicksRow.knobs == [])) = true := by kernel_rfl
theorem fact8ExecPicks : ((Tryz.prog.stopKnobs == [])) = true := by kernel_rfl
theorem fact9ExecPicks : ((Rows.execPicksRow.inPlace == Tryz.prog.inPlace 8)) = true := by kernel_rfl
theorem fact10ExecPicks : ((Rows.execPicksRow.unfollowed == Tryz.prog.unfollowed 8)) = true := by kernel_rfl
theorem fact11ExecPicks : ((Rows.execPicksRow.recurses == Tryz.prog.recurses 8)) = true := by kernel_rfl
theorem fact12ExecPicks : ((Rows.execPicksRow.named == Tryz.prog.varsNamed 8)) = true := by kernel_rfl
theorem fact13ExecPicks : ((Rows.execPicksRow.maps == (Tryz.f8.params.toList ++ Rows.execPicksSpec.plain.varTypes Tryz.prog).any (Tryz.prog.mapsRec ·))) = true := by kernel_rfl
theorem fact14ExecPicks : ((Rows.execPicksRow.ifaces == (Tryz.f8.params.toList ++ Rows.execPicksSpec.plain.varTypes Tryz.prog).any (Tryz.prog.ifacesRec ·))) = true := by kernel_rfl
theorem fact15ExecPicks : ((Rows.execPicksRow.mapsOut == Tryz.prog.mapsAmong Tryz.f8.resultTypes.toList)) = true := by kernel_rfl
theorem fact16ExecPicks : ((Rows.execPicksRow.loops == (Tryz.f8.params.toList ++ Rows.execPicksSpec.plain.varTypes Tryz.prog).any (Tryz.prog.loopsFrom ·))) = true := by kernel_rfl
theorem fact17ExecPicks : ((Rows.execPicksRow.wideKeys == (Tryz.f8.params.toList ++ Rows.execPicksSpec.plain.varTypes Tryz.prog ++ Tryz.f8.resultTypes.toList).any (Tryz.prog.wideKeysFrom ·))) = true := by kernel_rfl
theorem fact18ExecPicks : (Rows.execPicksSpec.vars.all (Tryz.prog.varReadable ·)) = true := by kernel_rfl
theorem fact19ExecPicks : (Tryz.f8.resultTypes.all (fun t => Tryz.prog.readableRec t && decide (t < Tryz.prog.types.size))) = true := by kernel_rfl
theorem fact20ExecPicks : ((Rows.execPicksRow.ifacesOut == Tryz.f8.resultTypes.toList.any (Tryz.prog.ifacesRec ·))) = true := by kernel_rfl
theorem fact21ExecPicks : ((Rows.execPicksRow.loopsOut == Tryz.f8.resultTypes.toList.any (Tryz.prog.loopsFrom ·))) = true := by kernel_rfl
theorem fact22ExecPicks : ((Rows.execPicksRow.plainKeys == Tryz.prog.plainKeys)) = true := by kernel_rfl
theorem fact23ExecPicks : (Rows.execPicksRow.shortTexts.isNone) = true := by kernel_rfl
theorem fact24ExecPicks : (Tryz.prog.stopsHeard) = true := by kernel_rfl
theorem fact25ExecPicks : (Tryz.prog.mayEnter) = true := by kernel_rfl
theorem fact26ExecPicks : ((Rows.execPicksRow.lifted == Tryz.prog.liftsFinal)) = true := by kernel_rfl
theorem fact27ExecPicks : ((Tryz.prog.make == some Rows.execPicksRow.make)) = true := by kernel_rfl
theorem fact28ExecPicks : ((Rows.execPicksRow.kinds == (if Rows.execPicksRow.domain.isEmpty then [] else Tryz.f8.params.toList.map fun t => match Tryz.prog.underlying t with | some (.int k) => some k | _ => none))) = true := by kernel_rfl
theorem fact29ExecPicks : ((Rows.execPicksRow.pinned == Rows.execPicksRow.pinnedBy)) = true := by kernel_rfl
theorem fact30ExecPicks : ((Rows.execPicksRow.veiled == (Tryz.f8.params.toList ++ Rows.execPicksSpec.plain.varTypes Tryz.prog ++ Tryz.f8.resultTypes.toList).any (Tryz.prog.veiledRec ·))) = true := by kernel_rfl
theorem fact31ExecPicks : (Rows.execPicksRow.veiledFits Tryz.prog Tryz.f8.params.toList (Tryz.f8.params.toList ++ Rows.execPicksSpec.plain.varTypes Tryz.prog ++ Tryz.f8.resultTypes.toList)) = true := by kernel_rfl
set_option maxRecDepth 100000 in
theorem closedExecPicks : joinedFacts Tryz.prog 8 Tryz.f8 Rows.execPicksSpec Rows.execPicksRow = true := by
  unfold joinedFacts
  exact (and_t (and_t (and_t (and_t (and_t (and_t (and_t (and_t (and_t (and_t (and_t (and_t (and_t (and_t (and_t (and_t (and_t (and_t (and_t (and_t (and_t (and_t (and_t (and_t (and_t (and_t (and_t (and_t (and_t (and_t (and_t fact0ExecPicks fact1ExecPicks) fact2ExecPicks) fact3ExecPicks) fact4ExecPicks) fact5ExecPicks) fact6ExecPicks) fact7ExecPicks) fact8ExecPicks) fact9ExecPicks) fact10ExecPicks) fact11ExecPicks) fact12ExecPicks) fact13ExecPicks) fact14ExecPicks) fact15ExecPicks) fact16ExecPicks) fact17ExecPicks) fact18ExecPicks) fact19ExecPicks) fact20ExecPicks) fact21ExecPicks) fact22ExecPicks) fact23ExecPicks) fact24ExecPicks) fact25ExecPicks) fact26ExecPicks) fact27ExecPicks) fact28ExecPicks) fact29ExecPicks) fact30ExecPicks) fact31ExecPicks)
theorem fNamedExecPicks : Tryz.prog.funcNamed "gangsaw/gangsawlaw.ExecPicks" = some 8 := by kernel_rfl
theorem instExecPicks : Tryz.f8.isInstance Tryz.prog Rows.execPicksRow.origin Rows.execPicksRow.targs := of_decide_eq_true (by kernel_rfl)
theorem wrapExecPicks : Tryz.f8.isWrapper Tryz.prog Rows.execPicksRow.wrapper Rows.execPicksRow.mainSum := by unfold Func.isWrapper; first | (rw [if_pos (by decide +kernel)]; kernel_rfl) | (rw [if_neg (by decide +kernel)]; exact ⟨rfl, rfl⟩)
theorem overExecPicks : Rows.execPicksRow.holds Tryz.pinned (OpenSpec.ofChange Rows.execPicksSpec) :=
  OpenClaim.holds_of_wide 8 Tryz.f8 rfl rfl rfl rfl rfl rfl rfl ⟨rfl, rfl, rfl, rfl, rfl⟩ rfl rfl rfl rfl rfl fNamedExecPicks Tryz.func8 closedExecPicks instExecPicks wrapExecPicks
    (fun os started H enc _ => liftedExecPicks os started H enc)

theorem byTextExecPicks : Rows.execPicksRow.wfByText (OpenSpec.ofChange Rows.execPicksSpec) = true := by kernel_rfl
theorem mainExecPicks : Tryz.prog.mainIs = some (((true, "9ab1331a6b96b3c3520091a15f421155077d78ec8e12f48cbefae1dfb71190e2") : Bool × String).1, ((true, "9ab1331a6b96b3c3520091a15f421155077d78ec8e12f48cbefae1dfb71190e2") : Bool × String).2.toList) := by kernel_rfl
theorem looksExecPicks : true = Tryz.prog.looks [] := by kernel_rfl
theorem standExecPicks : ([68, 3, 25, 53, 53, 3].all fun u => !Tryz.prog.wantsStandIn u) = true := by kernel_rfl
theorem goesExecPicks : false = Rows.execPicksRow.goesBy Tryz.prog := by kernel_rfl
theorem provedExecPicks : Rows.ExecPicksCardSaid :=
  Claim7.holds_tied_plain_at .later [] [.data, .data, .data, .data, .sentinel, .sentinel, .pinned] true (true, "9ab1331a6b96b3c3520091a15f421155077d78ec8e12f48cbefae1dfb71190e2") true
    overExecPicks (fun _ h => by cases h) byTextExecPicks (fun _ h => by cases h) execPicks_row_tie rfl ⟨rfl, rfl⟩ mainExecPicks rfl
    (fun f fn hf hfn => by
      obtain rfl : f = 8 := Option.some.inj (fNamedExecPicks.symm.trans hf) |>.symm
      obtain rfl : fn = Tryz.f8 := (Option.some.inj (Tryz.func8.symm.trans hfn)).symm
      exact ⟨looksExecPicks, fun j t ht => by
        rw [Tryz.params8] at ht
        have hm : t ∈ [68, 3, 25, 53, 53, 3] := by simpa using Array.mem_of_getElem? ht
        exact (show Tryz.prog.wantsStandIn t = false by simpa using List.all_eq_true.1 standExecPicks t hm)⟩)
    goesExecPicks

end Go.Proofs.YtffljdmmambdjacGreatDoor

