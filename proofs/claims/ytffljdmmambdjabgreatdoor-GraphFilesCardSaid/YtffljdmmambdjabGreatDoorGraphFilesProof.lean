/- GraphFiles, as it is given: for every input the law returns true, and each argument reads as it did; the row's condition is what the card ties: the listed variables hold what the program's text lays. -/
import Derived.Test.YtffljdmmambdjabGreatDoorF2
import Derived.Test.YtffljdmmambdjabGreatDoorCards
import Derived.Test.YtffljdmmambdjabGreatDoorTie
import Derived.ProofKit
import Derived.OpenShut
import Derived.ChangeOld
import Derived.Below
import Derived.SizedLaws
import Derived.LaidMore
import Derived.Lay
import Derived.SevenTiedAt
import Derived.Stop.LaidErr
import Derived.LaidLaws
set_option linter.unusedVariables false
set_option linter.unusedSimpArgs false
namespace Go.Proofs.YtffljdmmambdjabGreatDoor
open Go.Proofs Go.RowKit
open Go.ChangeShapes Go.WideShapes Go.ChangeAt

theorem pow10GraphFiles : Rows.laid_internal_strconv_uint64pow10 (H := Unit) = Lib.tabData .u64 Lib.pow10Tab := by kernel_rfl
theorem starGraphFiles : "*" ++ "errors.errorString" = "*errors.errorString" := by decide
theorem rowErrGraphFiles (u : TypeId) (h : Tryz.prog.typeName? 3 u = some "*errors.errorString") : u = 343 :=
  typeName_ptr_named (nm := "errors.errorString") (by rw [starGraphFiles]; kernel_rfl) (by kernel_rfl) (by decide) u (by rw [starGraphFiles]; exact h)
theorem gErrSyntaxGraphFiles : Tryz.prog.globalNamed "strconv.ErrSyntax" = some 3 := by kernel_rfl
theorem tErrSyntaxGraphFiles : (Tryz.prog.globals[3]?).map (·.type) = some 84 := by kernel_rfl
theorem laidErrSyntaxGraphFiles {W : World} (h : laidMet Tryz.prog Rows.graphFilesRow.laid W) : ∃ tp p, W.var? Tryz.prog "strconv.ErrSyntax" = some #[.iface tp p] := by
  obtain ⟨a, s, hv, -, -, -⟩ := laid_sentinel (h.tail.tail.tail.tail.tail) gErrSyntaxGraphFiles tErrSyntaxGraphFiles Tryz.underlying84 rowErrGraphFiles Tryz.underlying343 Tryz.underlying345 rfl rfl Tryz.underlying9 (show Tryz.prog.cellsOf 345 = 1 by kernel_rfl) (show Tryz.prog.cellsOf 9 = 1 by kernel_rfl)
  exact ⟨_, _, hv⟩
theorem gErrRangeGraphFiles : Tryz.prog.globalNamed "strconv.ErrRange" = some 4 := by kernel_rfl
theorem tErrRangeGraphFiles : (Tryz.prog.globals[4]?).map (·.type) = some 84 := by kernel_rfl
theorem laidErrRangeGraphFiles {W : World} (h : laidMet Tryz.prog Rows.graphFilesRow.laid W) : ∃ tp p, W.var? Tryz.prog "strconv.ErrRange" = some #[.iface tp p] := by
  obtain ⟨a, s, hv, -, -, -⟩ := laid_sentinel (h.tail.tail.tail.tail) gErrRangeGraphFiles tErrRangeGraphFiles Tryz.underlying84 rowErrGraphFiles Tryz.underlying343 Tryz.underlying345 rfl rfl Tryz.underlying9 (show Tryz.prog.cellsOf 345 = 1 by kernel_rfl) (show Tryz.prog.cellsOf 9 = 1 by kernel_rfl)
  exact ⟨_, _, hv⟩
theorem ownGraphFiles : ownKnob Tryz.prog.godebug = none := by kernel_rfl
theorem laidOutGraphFiles : laidOutB Tryz.prog = true := by kernel_rfl
set_option maxRecDepth 100000 in
theorem liftedGraphFiles (os : Os) (started : os.Started) (H : Type) (enc : TypeId × Value → H) :
    ReturnsInHanded {} Tryz.checked os 10 .any (fun w args => (Rows.graphFilesSpec.pre enc Tryz.prog Tryz.f10 Rows.graphFilesRow.domain false w args ∧ laidMetH Tryz.prog Rows.graphFilesRow.laid w) ∧ sizedMet enc Tryz.prog Tryz.f10 (OpenSpec.ofChange Rows.graphFilesSpec) false w args) (Rows.graphFilesSpec.post enc Tryz.prog Tryz.f10 false true false false) := by
  refine Gv.returns_both (C := Tryz.checked) (X := fun w _ => laidMetH Tryz.prog Rows.graphFilesRow.laid w) (fun _ _ _ hh h => h.of_heap hh) ownGraphFiles started (by kernel_rfl) Tryz.func10
    (ChangeSpec.witness_shaped (enc := enc) (C := Tryz.checked) (os := os) (X := fun w _ => laidMetH Tryz.prog Rows.graphFilesRow.laid w) false (World.laidAll Tryz.prog os Rows.graphFilesRow.laid) #[(.agg #[(.slice none 0 0)]), (.slice none 0 0)] 8 (World.laidAll_os _ _ _)
      (World.shaped_of_ZipB (by kernel_rfl) (by kernel_rfl)) (by kernel_rfl) (by kernel_rfl) (by kernel_rfl)
      (by rw [MakeChecks.laidMetH_plain _ _ _ (by kernel_rfl)]; exact laidMet_laidAll _ (by kernel_rfl) (by kernel_rfl))) ?_
  intro W base args ds gs before hval0 hW hsz0 hL hsh
  have hval : ∀ (j : Nat) t v, Tryz.f10.params[j]? = some t → args[j]? = some v → Value.okWide Tryz.prog W .any base t v := hval0
  have hsz : (DataW.weightsEach Tryz.prog (Tryz.f10.params.toList ++ []) (ds ++ gs)).all (· ≤ reachBytes) = true := hsz0
  clear hsz0
  rw [MakeChecks.laidMetH_plain _ _ _ (by kernel_rfl)] at hL
  letI : Gv.Glob := Gv.worldGlob W
  haveI : Gv.Laid := ⟨Gv.all_int (P := Tryz.prog) hsh (g := 2) (t := 3) (zero := #[.int .i64 0]) (of_decide_eq_true (by kernel_rfl)) (by kernel_rfl) rfl (by kernel_rfl) (by kernel_rfl) Tryz.underlying3⟩
  have hP : laidMet Tryz.prog (("internal/strconv.uint64pow10", Lib.tabData .u64 Lib.pow10Tab) :: Rows.graphFilesRow.laid.drop 3) W := by
    rw [← pow10GraphFiles]
    exact hL.tail.tail
  haveI : Gv.Nums := ⟨Gv.all_tab (Lib.tabIs_of_head (g := 5) (t := 339) (by kernel_rfl) (by kernel_rfl) Tryz.underlying339 Tryz.underlying260 (by kernel_rfl) (by kernel_rfl) hP)⟩
  haveI : Gv.Errs := ⟨fun w hw => let ⟨tp, p, e⟩ := laidErrSyntaxGraphFiles hL; ⟨tp, p, Gv.all_var hw e⟩, fun w hw => let ⟨tp, p, e⟩ := laidErrRangeGraphFiles hL; ⟨tp, p, Gv.all_var hw e⟩⟩
  have hW' := hW
  obtain ⟨p, q, hA0, hV, rfl, hfz, hnd⟩ := hW
  have hA : DataW.TrodAll enc Tryz.prog W 0 (fun _ => true) true Tryz.f10.params.toList args.toList ds p := hA0
  rw [Tryz.params10] at hA hval hsz
  obtain ⟨v0, vs0, d0, ds0, p0, q0, hargs, rfl, rfl, k0, r0⟩ := trodAll_cons hA
  obtain ⟨v1, vs1, d1, ds1, p1, q1, rfl, rfl, rfl, k1, r1⟩ := trodAll_cons r0
  obtain ⟨rfl, rfl, rfl⟩ := trodAll_nil r1
  obtain rfl : args = #[v0, v1] := by cases args; simp_all
  obtain ⟨rfl, rfl⟩ := trodVars_none hV
  have lt0 : ∀ x ∈ p0, x.block < W.heap.size := by obtain ⟨m, hm⟩ := k0; exact DataW.trod_lt m _ _ _ hm
  have lt1 : ∀ x ∈ p1, x.block < W.heap.size := by obtain ⟨m, hm⟩ := k1; exact DataW.trod_lt m _ _ _ hm
  have wt0 : ∀ n ∈ d0.weights Tryz.prog 94, n ≤ reachBytes := fun n hn => by simpa using List.all_eq_true.1 hsz n (DataW.weights_mem_each (j := 0) rfl rfl n hn)
  have wt1 : ∀ n ∈ d1.weights Tryz.prog 22, n ≤ reachBytes := fun n hn => by simpa using List.all_eq_true.1 hsz n (DataW.weights_mem_each (j := 1) rfl rfl n hn)
  obtain ⟨a0, I0, g0⟩ := Gv.arg_struct Tryz.underlying94 (hval 0 94 v0 rfl rfl) Gv.opn_graph k0 wt0
  obtain ⟨a1, I1, g1⟩ := Gv.arg_slice Tryz.underlying22 (hval 1 22 v1 rfl rfl) (Gv.opn_slice (k := 2) Tryz.underlying22 (by kernel_rfl) (by omega) Gv.opn_file) k1 wt1
  clear hA0 hval0
  refine (Gv.law_calls Gv.gFilesT_ok W (Gv.worldGlob_le W) rfl (Gv.vr_cons g0 (Gv.vr_cons g1 Gv.vr_nil)) ⟨a0, a1, rfl, rfl⟩).mono fun e W' ⟨he, bel0⟩ => ?_
  have bel := bel0.below
  subst he
  exact ⟨_, rfl, _, _, _, [], _, [], hW', trodAll_mk1 (shut_bool Tryz.underlying4 _), (trodAll_cons_mk (Below.trod laidOutGraphFiles (by kernel_rfl) (of_decide_eq_true (by kernel_rfl)) k0 bel lt0) (trodAll_cons_mk (Below.trod laidOutGraphFiles (by kernel_rfl) (of_decide_eq_true (by kernel_rfl)) k1 bel lt1) trodAll_mk0)), rfl, bel.frame _, fun h => by cases h⟩

theorem and_t {a b : Bool} (h : a = true) (k : b = true) : (a && b) = true := by rw [h, k]; rfl
theorem fact0GraphFiles : (Rows.graphFilesRow.wf (OpenSpec.ofChange Rows.graphFilesSpec)) = true := by kernel_rfl
theorem fact1GraphFiles : (laidOutB Tryz.prog) = true := by kernel_rfl
theorem fact2GraphFiles : (mapsRowed Tryz.prog) = true := by kernel_rfl
theorem fact3GraphFiles : (Tryz.f10.params.all (Tryz.prog.readableRec ·)) = true := by kernel_rfl
theorem fact4GraphFiles : (namedTie Tryz.prog Rows.graphFilesRow.named Rows.graphFilesSpec.vars) = true := by kernel_rfl
theorem fact5GraphFiles : ((Rows.graphFilesRow.stops == [])) = true := by kernel_rfl
theorem fact6GraphFiles : ((Tryz.prog.stops == [])) = true := by kernel_rfl
theorem fact7GraphFiles : ((Rows.graphFilesRow.knobs == [])) = true := by kernel_rfl
theorem fact8GraphFiles : ((Tryz.prog.stopKnobs == [])) = true := by kernel_rfl
theorem fact9GraphFiles : ((Rows.graphFilesRow.inPlace == Tryz.prog.inPlace 10)) = true := by kernel_rfl
theorem fact10GraphFiles : ((Rows.graphFilesRow.unfollowed == Tryz.prog.unfollowed 10)) = true := by kernel_rfl
theorem fact11GraphFiles : ((Rows.graphFilesRow.recurses == Tryz.prog.recurses 10)) = true := by kernel_rfl
theorem fact12GraphFiles : ((Rows.graphFilesRow.named == Tryz.prog.varsNamed 10)) = true := by kernel_rfl
theorem fact13GraphFiles : ((Rows.graphFilesRow.maps == (Tryz.f10.params.toList ++ Rows.graphFilesSpec.plain.varTypes Tryz.prog).any (Tryz.prog.mapsRec ·))) = true := by kernel_rfl
theorem fact14GraphFiles : ((Rows.graphFilesRow.ifaces == (Tryz.f10.params.toList ++ Rows.graphFilesSpec.plain.varTypes Tryz.prog).any (Tryz.prog.ifacesRec ·))) = true := by kernel_rfl
theorem fact15GraphFiles : ((Rows.graphFilesRow.mapsOut == Tryz.prog.mapsAmong Tryz.f10.resultTypes.toList)) = true := by kernel_rfl
theorem fact16GraphFiles : ((Rows.graphFilesRow.loops == (Tryz.f10.params.toList ++ Rows.graphFilesSpec.plain.varTypes Tryz.prog).any (Tryz.prog.loopsFrom ·))) = true := by kernel_rfl
theorem fact17GraphFiles : ((Rows.graphFilesRow.wideKeys == (Tryz.f10.params.toList ++ Rows.graphFilesSpec.plain.varTypes Tryz.prog ++ Tryz.f10.resultTypes.toList).any (Tryz.prog.wideKeysFrom ·))) = true := by kernel_rfl
theorem fact18GraphFiles : (Rows.graphFilesSpec.vars.all (Tryz.prog.varReadable ·)) = true := by kernel_rfl
theorem fact19GraphFiles : (Tryz.f10.resultTypes.all (fun t => Tryz.prog.readableRec t && decide (t < Tryz.prog.types.size))) = true := by kernel_rfl
theorem fact20GraphFiles : ((Rows.graphFilesRow.ifacesOut == Tryz.f10.resultTypes.toList.any (Tryz.prog.ifacesRec ·))) = true := by kernel_rfl
theorem fact21GraphFiles : ((Rows.graphFilesRow.loopsOut == Tryz.f10.resultTypes.toList.any (Tryz.prog.loopsFrom ·))) = true := by kernel_rfl
theorem fact22GraphFiles : ((Rows.graphFilesRow.plainKeys == Tryz.prog.plainKeys)) = true := by kernel_rfl
theorem fact23GraphFiles : (Rows.graphFilesRow.shortTexts.isNone) = true := by kernel_rfl
theorem fact24GraphFiles : (Tryz.prog.stopsHeard) = true := by kernel_rfl
theorem fact25GraphFiles : (Tryz.prog.mayEnter) = true := by kernel_rfl
theorem fact26GraphFiles : ((Rows.graphFilesRow.lifted == Tryz.prog.liftsFinal)) = true := by kernel_rfl
theorem fact27GraphFiles : ((Tryz.prog.make == some Rows.graphFilesRow.make)) = true := by kernel_rfl
theorem fact28GraphFiles : ((Rows.graphFilesRow.kinds == (if Rows.graphFilesRow.domain.isEmpty then [] else Tryz.f10.params.toList.map fun t => match Tryz.prog.underlying t with | some (.int k) => some k | _ => none))) = true := by kernel_rfl
theorem fact29GraphFiles : ((Rows.graphFilesRow.pinned == Rows.graphFilesRow.pinnedBy)) = true := by kernel_rfl
theorem fact30GraphFiles : ((Rows.graphFilesRow.veiled == (Tryz.f10.params.toList ++ Rows.graphFilesSpec.plain.varTypes Tryz.prog ++ Tryz.f10.resultTypes.toList).any (Tryz.prog.veiledRec ·))) = true := by kernel_rfl
theorem fact31GraphFiles : (Rows.graphFilesRow.veiledFits Tryz.prog Tryz.f10.params.toList (Tryz.f10.params.toList ++ Rows.graphFilesSpec.plain.varTypes Tryz.prog ++ Tryz.f10.resultTypes.toList)) = true := by kernel_rfl
set_option maxRecDepth 100000 in
theorem closedGraphFiles : joinedFacts Tryz.prog 10 Tryz.f10 Rows.graphFilesSpec Rows.graphFilesRow = true := by
  unfold joinedFacts
  exact (and_t (and_t (and_t (and_t (and_t (and_t (and_t (and_t (and_t (and_t (and_t (and_t (and_t (and_t (and_t (and_t (and_t (and_t (and_t (and_t (and_t (and_t (and_t (and_t (and_t (and_t (and_t (and_t (and_t (and_t (and_t fact0GraphFiles fact1GraphFiles) fact2GraphFiles) fact3GraphFiles) fact4GraphFiles) fact5GraphFiles) fact6GraphFiles) fact7GraphFiles) fact8GraphFiles) fact9GraphFiles) fact10GraphFiles) fact11GraphFiles) fact12GraphFiles) fact13GraphFiles) fact14GraphFiles) fact15GraphFiles) fact16GraphFiles) fact17GraphFiles) fact18GraphFiles) fact19GraphFiles) fact20GraphFiles) fact21GraphFiles) fact22GraphFiles) fact23GraphFiles) fact24GraphFiles) fact25GraphFiles) fact26GraphFiles) fact27GraphFiles) fact28GraphFiles) fact29GraphFiles) fact30GraphFiles) fact31GraphFiles)
theorem fNamedGraphFiles : Tryz.prog.funcNamed "gangsaw/gangsawlaw.GraphFiles" = some 10 := by kernel_rfl
theorem instGraphFiles : Tryz.f10.isInstance Tryz.prog Rows.graphFilesRow.origin Rows.graphFilesRow.targs := of_decide_eq_true (by kernel_rfl)
theorem wrapGraphFiles : Tryz.f10.isWrapper Tryz.prog Rows.graphFilesRow.wrapper Rows.graphFilesRow.mainSum := by unfold Func.isWrapper; first | (rw [if_pos (by decide +kernel)]; kernel_rfl) | (rw [if_neg (by decide +kernel)]; exact ⟨rfl, rfl⟩)
theorem overGraphFiles : Rows.graphFilesRow.holds Tryz.pinned (OpenSpec.ofChange Rows.graphFilesSpec) :=
  OpenClaim.holds_of_wide 10 Tryz.f10 rfl rfl rfl rfl rfl rfl rfl ⟨rfl, rfl, rfl, rfl, rfl⟩ rfl rfl rfl rfl rfl fNamedGraphFiles Tryz.func10 closedGraphFiles instGraphFiles wrapGraphFiles
    (fun os started H enc _ => liftedGraphFiles os started H enc)

theorem byTextGraphFiles : Rows.graphFilesRow.wfByText (OpenSpec.ofChange Rows.graphFilesSpec) = true := by kernel_rfl
theorem mainGraphFiles : Tryz.prog.mainIs = some (((true, "b426d36aee87a7ddd55f45017cccf55016e8ded7f58b3cb4097dc16445e1fe35") : Bool × String).1, ((true, "b426d36aee87a7ddd55f45017cccf55016e8ded7f58b3cb4097dc16445e1fe35") : Bool × String).2.toList) := by kernel_rfl
theorem looksGraphFiles : true = Tryz.prog.looks [] := by kernel_rfl
theorem standGraphFiles : ([94, 22].all fun u => !Tryz.prog.wantsStandIn u) = true := by kernel_rfl
theorem goesGraphFiles : false = Rows.graphFilesRow.goesBy Tryz.prog := by kernel_rfl
theorem provedGraphFiles : Rows.GraphFilesCardSaid :=
  Claim7.holds_tied_plain_at .later [] [.data, .data, .data, .data, .sentinel, .sentinel, .pinned] true (true, "b426d36aee87a7ddd55f45017cccf55016e8ded7f58b3cb4097dc16445e1fe35") true
    overGraphFiles (fun _ h => by cases h) byTextGraphFiles (fun _ h => by cases h) graphFiles_row_tie rfl ⟨rfl, rfl⟩ mainGraphFiles rfl
    (fun f fn hf hfn => by
      obtain rfl : f = 10 := Option.some.inj (fNamedGraphFiles.symm.trans hf) |>.symm
      obtain rfl : fn = Tryz.f10 := (Option.some.inj (Tryz.func10.symm.trans hfn)).symm
      exact ⟨looksGraphFiles, fun j t ht => by
        rw [Tryz.params10] at ht
        have hm : t ∈ [94, 22] := by simpa using Array.mem_of_getElem? ht
        exact (show Tryz.prog.wantsStandIn t = false by simpa using List.all_eq_true.1 standGraphFiles t hm)⟩)
    goesGraphFiles

end Go.Proofs.YtffljdmmambdjabGreatDoor

