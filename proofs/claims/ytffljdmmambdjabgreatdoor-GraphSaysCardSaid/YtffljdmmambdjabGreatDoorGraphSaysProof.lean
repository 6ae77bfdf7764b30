/- GraphSays, as it is given: for every input the law returns true, and each argument reads as it did; the row's condition is what the card ties: the listed variables hold what the program's text lays. -/
import Derived.Test.YtffljdmmambdjabGreatDoorF2
import Derived.Test.YtffljdmmambdjabGreatDoorCards
import Derived.Test.YtffljdmmambdjabGreatDoorTie
import Derived.ProofKit
import Derived.OpenShut
import Derived.ChangeOld
import Derived.Below
import Derived.SizedLaws
import Derived.LaidMore
import Derived.Lay
import Derived.SevenTiedAt
import Derived.Stop.LaidErr
import Derived.LaidLaws
set_option linter.unusedVariables false
set_option linter.unusedSimpArgs false
namespace Go.Proofs.YtffljdmmambdjabGreatDoor
open Go.Proofs Go.RowKit
open Go.ChangeShapes Go.WideShapes Go.ChangeAt

theorem pow10GraphSays : Rows.laid_internal_strconv_uint64pow10 (H := Unit) = Lib.tabData .u64 Lib.pow10Tab := by kernel_rfl
theorem starGraphSays : "*" ++ "errors.errorString" = "*errors.errorString" := by decide
theorem rowErrGraphSays (u : TypeId) (h : Tryz.prog.typeName? 3 u = some "*errors.errorString") : u = 343 :=
  typeName_ptr_named (nm := "errors.errorString") (by rw [starGraphSays]; kernel_rfl) (by kernel_rfl) (by decide) u (by rw [starGraphSays]; exact h)
theorem gErrSyntaxGraphSays : Tryz.prog.globalNamed "strconv.ErrSyntax" = some 3 := by kernel_rfl
theorem tErrSyntaxGraphSays : (Tryz.prog.globals[3]?).map (·.type) = some 84 := by kernel_rfl
theorem laidErrSyntaxGraphSays {W : World} (h : laidMet Tryz.prog Rows.graphSaysRow.laid W) : ∃ tp p, W.var? Tryz.prog "strconv.ErrSyntax" = some #[.iface tp p] := by
  obtain ⟨a, s, hv, -, -, -⟩ := laid_sentinel (h.tail.tail.tail.tail.tail) gErrSyntaxGraphSays tErrSyntaxGraphSays Tryz.underlying84 rowErrGraphSays Tryz.underlying343 Tryz.underlying345 rfl rfl Tryz.underlying9 (show Tryz.prog.cellsOf 345 = 1 by kernel_rfl) (show Tryz.prog.cellsOf 9 = 1 by kernel_rfl)
  exact ⟨_, _, hv⟩
theorem gErrRangeGraphSays : Tryz.prog.globalNamed "strconv.ErrRange" = some 4 := by kernel_rfl
theorem tErrRangeGraphSays : (Tryz.prog.globals[4]?).map (·.type) = some 84 := by kernel_rfl
theorem laidErrRangeGraphSays {W : World} (h : laidMet Tryz.prog Rows.graphSaysRow.laid W) : ∃ tp p, W.var? Tryz.prog "strconv.ErrRange" = some #[.iface tp p] := by
  obtain ⟨a, s, hv, -, -, -⟩ := laid_sentinel (h.tail.tail.tail.tail) gErrRangeGraphSays tErrRangeGraphSays Tryz.underlying84 rowErrGraphSays Tryz.underlying343 Tryz.underlying345 rfl rfl Tryz.underlying9 (show Tryz.prog.cellsOf 345 = 1 by kernel_rfl) (show Tryz.prog.cellsOf 9 = 1 by kernel_rfl)
  exact ⟨_, _, hv⟩
theorem ownGraphSays : ownKnob Tryz.prog.godebug = none := by kernel_rfl
theorem laidOutGraphSays : laidOutB Tryz.prog = true := by kernel_rfl
set_option maxRecDepth 100000 in
theorem liftedGraphSays (os : Os) (started : os.Started) (H : Type) (enc : TypeId × Value → H) :
    ReturnsInHanded {} Tryz.checked os 13 .any (fun w args => (Rows.graphSaysSpec.pre enc Tryz.prog Tryz.f13 Rows.graphSaysRow.domain false w args ∧ laidMetH Tryz.prog Rows.graphSaysRow.laid w) ∧ sizedMet enc Tryz.prog Tryz.f13 (OpenSpec.ofChange Rows.graphSaysSpec) false w args) (Rows.graphSaysSpec.post enc Tryz.prog Tryz.f13 false true false false) := by
  refine Gv.returns_both (C := Tryz.checked) (X := fun w _ => laidMetH Tryz.prog Rows.graphSaysRow.laid w) (fun _ _ _ hh h => h.of_heap hh) ownGraphSays started (by kernel_rfl) Tryz.func13
    (ChangeSpec.witness_shaped (enc := enc) (C := Tryz.checked) (os := os) (X := fun w _ => laidMetH Tryz.prog Rows.graphSaysRow.laid w) false (World.laidAll Tryz.prog os Rows.graphSaysRow.laid) #[(.agg #[(.slice none 0 0)]), (.agg #[(.slice none 0 0)]), (.slice none 0 0), (.agg #[(.int .i64 0), (.string ⟨#[]⟩), (.int .i64 0), (.string ⟨#[]⟩), (.int .i64 0), (.int .i64 0), (.int .i64 0), (.slice none 0 0)])] 8 (World.laidAll_os _ _ _)
      (World.shaped_of_ZipB (by kernel_rfl) (by kernel_rfl)) (by kernel_rfl) (by kernel_rfl) (by kernel_rfl)
      (by rw [MakeChecks.laidMetH_plain _ _ _ (by kernel_rfl)]; exact laidMet_laidAll _ (by kernel_rfl) (by kernel_rfl))) ?_
  intro W base args ds gs before hval0 hW hsz0 hL hsh
  have hval : ∀ (j : Nat) t v, Tryz.f13.params[j]? = some t → args[j]? = some v → Value.okWide Tryz.prog W .any base t v := hval0
  have hsz : (DataW.weightsEach Tryz.prog (Tryz.f13.params.toList ++ []) (ds ++ gs)).all (· ≤ reachBytes) = true := hsz0
  clear hsz0
  rw [MakeChecks.laidMetH_plain _ _ _ (by kernel_rfl)] at hL
  letI : Gv.Glob := Gv.worldGlob W
  haveI : Gv.Laid := ⟨Gv.all_int (P := Tryz.prog) hsh (g := 2) (t := 3) (zero := #[.int .i64 0]) (of_decide_eq_true (by kernel_rfl)) (by kernel_rfl) rfl (by kernel_rfl) (by kernel_rfl) Tryz.underlying3⟩
  have hP : laidMet Tryz.prog (("internal/strconv.uint64pow10", Lib.tabData .u64 Lib.pow10Tab) :: Rows.graphSaysRow.laid.drop 3) W := by
    rw [← pow10GraphSays]
    exact hL.tail.tail
  haveI : Gv.Nums := ⟨Gv.all_tab (Lib.tabIs_of_head (g := 5) (t := 339) (by kernel_rfl) (by kernel_rfl) Tryz.underlying339 Tryz.underlying260 (by kernel_rfl) (by kernel_rfl) hP)⟩
  haveI : Gv.Errs := ⟨fun w hw => let ⟨tp, p, e⟩ := laidErrSyntaxGraphSays hL; ⟨tp, p, Gv.all_var hw e⟩, fun w hw => let ⟨tp, p, e⟩ := laidErrRangeGraphSays hL; ⟨tp, p, Gv.all_var hw e⟩⟩
  have hW' := hW
  obtain ⟨p, q, hA0, hV, rfl, hfz, hnd⟩ := hW
  have hA : DataW.TrodAll enc Tryz.prog W 0 (fun _ => true) true Tryz.f13.params.toList args.toList ds p := hA0
  rw [Tryz.params13] at hA hval hsz
  obtain ⟨v0, vs0, d0, ds0, p0, q0, hargs, rfl, rfl, k0, r0⟩ := trodAll_cons hA
  obtain ⟨v1, vs1, d1, ds1, p1, q1, rfl, rfl, rfl, k1, r1⟩ := trodAll_cons r0
  obtain ⟨v2, vs2, d2, ds2, p2, q2, rfl, rfl, rfl, k2, r2⟩ := trodAll_cons r1
  obtain ⟨v3, vs3, d3, ds3, p3, q3, rfl, rfl, rfl, k3, r3⟩ := trodAll_cons r2
  obtain ⟨rfl, rfl, rfl⟩ := trodAll_nil r3
  obtain rfl : args = #[v0, v1, v2, v3] := by cases args; simp_all
  obtain ⟨rfl, rfl⟩ := trodVars_none hV
  have lt0 : ∀ x ∈ p0, x.block < W.heap.size := by obtain ⟨m, hm⟩ := k0; exact DataW.trod_lt m _ _ _ hm
  have lt1 : ∀ x ∈ p1, x.block < W.heap.size := by obtain ⟨m, hm⟩ := k1; exact DataW.trod_lt m _ _ _ hm
  have lt2 : ∀ x ∈ p2, x.block < W.heap.size := by obtain ⟨m, hm⟩ := k2; exact DataW.trod_lt m _ _ _ hm
  have lt3 : ∀ x ∈ p3, x.block < W.heap.size := by obtain ⟨m, hm⟩ := k3; exact DataW.trod_lt m _ _ _ hm
  have wt0 : ∀ n ∈ d0.weights Tryz.prog 94, n ≤ reachBytes := fun n hn => by simpa using List.all_eq_true.1 hsz n (DataW.weights_mem_each (j := 0) rfl rfl n hn)
  have wt1 : ∀ n ∈ d1.weights Tryz.prog 94, n ≤ reachBytes := fun n hn => by simpa using List.all_eq_true.1 hsz n (DataW.weights_mem_each (j := 1) rfl rfl n hn)
  have wt2 : ∀ n ∈ d2.weights Tryz.prog 22, n ≤ reachBytes := fun n hn => by simpa using List.all_eq_true.1 hsz n (DataW.weights_mem_each (j := 2) rfl rfl n hn)
  have wt3 : ∀ n ∈ d3.weights Tryz.prog 99, n ≤ reachBytes := fun n hn => by simpa using List.all_eq_true.1 hsz n (DataW.weights_mem_each (j := 3) rfl rfl n hn)
  obtain ⟨a0, I0, g0⟩ := Gv.arg_struct Tryz.underlying94 (hval 0 94 v0 rfl rfl) Gv.opn_graph k0 wt0
  obtain ⟨a1, I1, g1⟩ := Gv.arg_struct Tryz.underlying94 (hval 1 94 v1 rfl rfl) Gv.opn_graph k1 wt1
  obtain ⟨a2, I2, g2⟩ := Gv.arg_slice Tryz.underlying22 (hval 2 22 v2 rfl rfl) (Gv.opn_slice (k := 2) Tryz.underlying22 (by kernel_rfl) (by omega) Gv.opn_file) k2 wt2
  obtain ⟨a3, I3, g3⟩ := Gv.arg_struct Tryz.underlying99 (hval 3 99 v3 rfl rfl) Gv.opn_node k3 wt3
  clear hA0 hval0
  refine (Gv.law_calls Gv.gSaysT_ok W (Gv.worldGlob_le W) rfl (Gv.vr_cons g0 (Gv.vr_cons g1 (Gv.vr_cons g2 (Gv.vr_cons g3 Gv.vr_nil)))) ⟨a0, a1, a2, a3, rfl, rfl⟩).mono fun e W' ⟨he, bel0⟩ => ?_
  have bel := bel0.below
  subst he
  exact ⟨_, rfl, _, _, _, [], _, [], hW', trodAll_mk1 (shut_bool Tryz.underlying4 _), (trodAll_cons_mk (Below.trod laidOutGraphSays (by kernel_rfl) (of_decide_eq_true (by kernel_rfl)) k0 bel lt0) (trodAll_cons_mk (Below.trod laidOutGraphSays (by kernel_rfl) (of_decide_eq_true (by kernel_rfl)) k1 bel lt1) (trodAll_cons_mk (Below.trod laidOutGraphSays (by kernel_rfl) (of_decide_eq_true (by kernel_rfl)) k2 bel lt2) (trodAll_cons_mk (Below.trod laidOutGraphSays (by kernel_rfl) (of_decide_eq_true (by kernel_rfl)) k3 bel lt3) trodAll_mk0)))), rfl, bel.frame _, fun h => by cases h⟩

theorem and_t {a b : Bool} (h : a = true) (k : b = true) : (a && b) = true := by rw [h, k]; rfl
theorem fact0GraphSays : (Rows.graphSaysRow.wf (OpenSpec.ofChange Rows.graphSaysSpec)) = true := by kernel_rfl
theorem fact1GraphSays : (laidOutB Tryz.prog) = true := by kernel_rfl
theorem fact2GraphSays : (mapsRowed Tryz.prog) = true := by kernel_rfl
theorem fact3GraphSays : (Tryz.f13.params.all (Tryz.prog.readableRec ·)) = true := by kernel_rfl
theorem fact4GraphSays : (namedTie Tryz.prog Rows.graphSaysRow.named Rows.graphSaysSpec.vars) = true := by kernel_rfl
theorem fact5GraphSays : ((Rows.graphSaysRow.stops == [])) = true := by kernel_rfl
theorem fact6GraphSays : ((Tryz.prog.stops == [])) = true := by kernel_rfl
theorem fact7GraphSays : ((Rows.graphSaysRow.knobs == [])) = true := by kernel_rfl
theorem fact8GraphSays : ((Tryz.prog.stopKnobs == [])) = true := by kernel_rfl
theorem fact9GraphSays : ((Rows.graphSaysRow.inPlace == Tryz.prog.inPlace 13)) = true := by kernel_rfl
theorem fact10GraphSays : ((Rows.graphSaysRow.unfollowed == Tryz.prog.unfollowed 13)) = true := by kernel_rfl
theorem fact11GraphSays : ((Rows.graphSaysRow.recurses == Tryz.prog.recurses 13)) = true := by kernel_rfl
theorem fact12GraphSays : ((Rows.graphSaysRow.named == Tryz.prog.varsNamed 13)) = true := by kernel_rfl
theorem fact13GraphSays : ((Rows.graphSaysRow.maps == (Tryz.f13.params.toList ++ Rows.graphSaysSpec.plain.varTypes Tryz.prog).any (Tryz.prog.mapsRec ·))) = true := by kernel_rfl
theorem fact14GraphSays : ((Rows.graphSaysRow.ifaces == (Tryz.f13.params.toList ++ Rows.graphSaysSpec.plain.varTypes Tryz.prog).any (Tryz.prog.ifacesRec ·))) = true := by kernel_rfl
theorem fact15GraphSays : ((Rows.graphSaysRow.mapsOut == Tryz.prog.mapsAmong Tryz.f13.resultTypes.toList)) = true := by kernel_rfl
theorem fact16GraphSays : ((Rows.graphSaysRow.loops == (Tryz.f13.params.toList ++ Rows.graphSaysSpec.plain.varTypes Tryz.prog).any (Tryz.prog.loopsFrom ·))) = true := by kernel_rfl
theorem fact17GraphSays : ((Rows.graphSaysRow.wideKeys == (Tryz.f13.params.toList ++ Rows.graphSaysSpec.plain.varTypes Tryz.prog ++ Tryz.f13.resultTypes.toList).any (Tryz.prog.wideKeysFrom ·))) = true := by kernel_rfl
theorem fact18GraphSays : (Rows.graphSaysSpec.vars.all (Tryz.prog.varReadable ·)) = true := by kernel_rfl
theorem fact19GraphSays : (Tryz.f13.resultTypes.all (fun t => Tryz.prog.readableRec t && decide (t < Tryz.prog.types.size))) = true := by kernel_rfl
theorem fact20GraphSays : ((Rows.graphSaysRow.ifacesOut == Tryz.f13.resultTypes.toList.any (Tryz.prog.ifacesRec ·))) = true := by kernel_rfl
theorem fact21GraphSays : ((Rows.graphSaysRow.loopsOut == Tryz.f13.resultTypes.toList.any (Tryz.prog.loopsFrom ·))) = true := by kernel_rfl
theorem fact22GraphSays : ((Rows.graphSaysRow.plainKeys == Tryz.prog.plainKeys)) = true := by kernel_rfl
theorem fact23GraphSays : (Rows.graphSaysRow.shortTexts.isNone) = true := by kernel_rfl
theorem fact24GraphSays : (Tryz.prog.stopsHeard) = true := by kernel_rfl
theorem fact25GraphSays : (Tryz.prog.mayEnter) = true := by kernel_rfl
theorem fact26GraphSays : ((Rows.graphSaysRow.lifted == Tryz.prog.liftsFinal)) = true := by kernel_rfl
theorem fact27GraphSays : ((Tryz.prog.make == some Rows.graphSaysRow.make)) = true := by kernel_rfl
theorem fact28GraphSays : ((Rows.graphSaysRow.kinds == (if Rows.graphSaysRow.domain.isEmpty then [] else Tryz.f13.params.toList.map fun t => match Tryz.prog.underlying t with | some (.int k) => some k | _ => none))) = true := by kernel_rfl
theorem fact29GraphSays : ((Rows.graphSaysRow.pinned == Rows.graphSaysRow.pinnedBy)) = true := by kernel_rfl
theorem fact30GraphSays : ((Rows.graphSaysRow.veiled == (Tryz.f13.params.toList ++ Rows.graphSaysSpec.plain.varTypes Tryz.prog ++ Tryz.f13.resultTypes.toList).any (Tryz.prog.veiledRec ·))) = true := by kernel_rfl
theorem fact31GraphSays : (Rows.graphSaysRow.veiledFits Tryz.prog Tryz.f13.params.toList (Tryz.f13.params.toList ++ Rows.graphSaysSpec.plain.varTypes Tryz.prog ++ Tryz.f13.resultTypes.toList)) = true := by kernel_rfl
set_option maxRecDepth 100000 in
theorem closedGraphSays : joinedFacts Tryz.prog 13 Tryz.f13 Rows.graphSaysSpec Rows.graphSaysRow = true := by
  unfold joinedFacts
  exact (and_t (and_t (and_t (and_t (and_t (and_t (and_t (and_t (and_t (and_t (and_t (and_t (and_t (and_t (and_t (and_t (and_t (and_t (and_t (and_t (and_t (and_t (and_t (and_t (and_t (and_t (and_t (and_t (and_t (and_t (and_t fact0GraphSays fact1GraphSays) fact2GraphSays) fact3GraphSays) fact4GraphSays) fact5GraphSays) fact6GraphSays) fact7GraphSays) fact8GraphSays) fact9GraphSays) fact10GraphSays) fact11GraphSays) fact12GraphSays) fact13GraphSays) fact14GraphSays) fact15GraphSays) fact16GraphSays) fact17GraphSays) fact18GraphSays) fact19GraphSays) fact20GraphSays) fact21GraphSays) fact22GraphSays) fact23GraphSays) fact24GraphSays) fact25GraphSays) fact26GraphSays) fact27GraphSays) fact28GraphSays) fact29GraphSays) fact30GraphSays) fact31GraphSays)
theorem fNamedGraphSays : Tryz.prog.funcNamed "gangsaw/gangsawlaw.GraphSays" = some 13 := by kernel_rfl
theorem instGraphSays : Tryz.f13.isInstance Tryz.prog Rows.graphSaysRow.origin Rows.graphSaysRow.targs := of_decide_eq_true (by kernel_rfl)
theorem wrapGraphSays : Tryz.f13.isWrapper Tryz.prog Rows.graphSaysRow.wrapper Rows.graphSaysRow.mainSum := by unfold Func.isWrapper; first | (rw [if_pos (by decide +kernel)]; kernel_rfl) | (rw [if_neg (by decide +kernel)]; exact ⟨rfl, rfl⟩)
theorem overGraphSays : Rows.graphSaysRow.holds Tryz.pinned (OpenSpec.ofChange Rows.graphSaysSpec) :=
  OpenClaim.holds_of_wide 13 Tryz.f13 rfl rfl rfl rfl rfl rfl rfl ⟨rfl, rfl, rfl, rfl, rfl⟩ rfl rfl rfl rfl rfl fNamedGraphSays Tryz.func13 closedGraphSays instGraphSays wrapGraphSays
    (fun os started H enc _ => liftedGraphSays os started H enc)

theorem byTextGraphSays : Rows.graphSaysRow.wfByText (OpenSpec.ofChange Rows.graphSaysSpec) = true := by kernel_rfl
theorem mainGraphSays : Tryz.prog.mainIs = some (((true, "b426d36aee87a7ddd55f45017cccf55016e8ded7f58b3cb4097dc16445e1fe35") : Bool × String).1, ((true, "b426d36aee87a7ddd55f45017cccf55016e8ded7f58b3cb4097dc16445e1fe35") : Bool × String).2.toList) := by kernel_rfl
theorem looksGraphSays : true = Tryz.prog.looks [] := by kernel_rfl
theorem standGraphSays : ([94, 94, 22, 99].all fun u => !Tryz.prog.wantsStandIn u) = true := by kernel_rfl
theorem goesGraphSays : false = Rows.graphSaysRow.goesBy Tryz.prog := by kernel_rfl
theorem provedGraphSays : Rows.GraphSaysCardSaid :=
  Claim7.holds_tied_plain_at .later [] [.data, .data, .data, .data, .sentinel, .sentinel, .pinned] true (true, "b426d36aee87a7ddd55f45017cccf55016e8ded7f58b3cb4097dc16445e1fe35") true
    overGraphSays (fun _ h => by cases h) byTextGraphSays (fun _ h => by cases h) graphSays_row_tie rfl ⟨rfl, rfl⟩ mainGraphSays rfl
    (fun f fn hf hfn => by
      obtain rfl : f = 13 := Option.some.inj (fNamedGraphSays.symm.trans hf) |>.symm
      obtain rfl : fn = Tryz.f13 := (Option.some.inj (Tryz.func13.symm.trans hfn)).symm
      exact ⟨looksGraphSays, fun j t ht => by
        rw [Tryz.params13] at ht
        have hm : t ∈ [94, 94, 22, 99] := by simpa using Array.mem_of_getElem? ht
        exact (show Tryz.prog.wantsStandIn t = false by simpa using List.all_eq_true.1 standGraphSays t hm)⟩)
    goesGraphSays

end Go.Proofs.YtffljdmmambdjabGreatDoor

