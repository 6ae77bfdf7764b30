/- DriverSays, as it is given: for every input the law returns true, and each argument reads as it did; the row's condition is what the card ties: the listed variables hold what the program's text lays. -/
import Derived.Test.YtffljdmmambdjabGreatDoorF3
import Derived.Test.YtffljdmmambdjabGreatDoorCards
import Derived.Test.YtffljdmmambdjabGreatDoorTie
import Derived.ProofKit
import Derived.OpenShut
import Derived.ChangeOld
import Derived.Below
import Derived.SizedLaws
import Derived.LaidMore
import Derived.Lay
import Derived.SevenTiedAt
import Derived.Stop.LaidErr
import Derived.LaidLaws
set_option linter.unusedVariables false
set_option linter.unusedSimpArgs false
namespace Go.Proofs.YtffljdmmambdjabGreatDoor
open Go.Proofs Go.RowKit
open Go.ChangeShapes Go.WideShapes Go.ChangeAt

theorem pow10DriverSays : Rows.laid_internal_strconv_uint64pow10 (H := Unit) = Lib.tabData .u64 Lib.pow10Tab := by kernel_rfl
theorem starDriverSays : "*" ++ "errors.errorString" = "*errors.errorString" := by decide
theorem rowErrDriverSays (u : TypeId) (h : Tryz.prog.typeName? 3 u = some "*errors.errorString") : u = 343 :=
  typeName_ptr_named (nm := "errors.errorString") (by rw [starDriverSays]; kernel_rfl) (by kernel_rfl) (by decide) u (by rw [starDriverSays]; exact h)
theorem gErrSyntaxDriverSays : Tryz.prog.globalNamed "strconv.ErrSyntax" = some 3 := by kernel_rfl
theorem tErrSyntaxDriverSays : (Tryz.prog.globals[3]?).map (·.type) = some 84 := by kernel_rfl
theorem laidErrSyntaxDriverSays {W : World} (h : laidMet Tryz.prog Rows.driverSaysRow.laid W) : ∃ tp p, W.var? Tryz.prog "strconv.ErrSyntax" = some #[.iface tp p] := by
  obtain ⟨a, s, hv, -, -, -⟩ := laid_sentinel (h.tail.tail.tail.tail.tail) gErrSyntaxDriverSays tErrSyntaxDriverSays Tryz.underlying84 rowErrDriverSays Tryz.underlying343 Tryz.underlying345 rfl rfl Tryz.underlying9 (show Tryz.prog.cellsOf 345 = 1 by kernel_rfl) (show Tryz.prog.cellsOf 9 = 1 by kernel_rfl)
  exact ⟨_, _, hv⟩
theorem gErrRangeDriverSays : Tryz.prog.globalNamed "strconv.ErrRange" = some 4 := by kernel_rfl
theorem tErrRangeDriverSays : (Tryz.prog.globals[4]?).map (·.type) = some 84 := by kernel_rfl
theorem laidErrRangeDriverSays {W : World} (h : laidMet Tryz.prog Rows.driverSaysRow.laid W) : ∃ tp p, W.var? Tryz.prog "strconv.ErrRange" = some #[.iface tp p] := by
  obtain ⟨a, s, hv, -, -, -⟩ := laid_sentinel (h.tail.tail.tail.tail) gErrRangeDriverSays tErrRangeDriverSays Tryz.underlying84 rowErrDriverSays Tryz.underlying343 Tryz.underlying345 rfl rfl Tryz.underlying9 (show Tryz.prog.cellsOf 345 = 1 by kernel_rfl) (show Tryz.prog.cellsOf 9 = 1 by kernel_rfl)
  exact ⟨_, _, hv⟩
theorem ownDriverSays : ownKnob Tryz.prog.godebug = none := by kernel_rfl
theorem laidOutDriverSays : laidOutB Tryz.prog = true := by kernel_rfl
set_option maxRecDepth 100000 in
theorem liftedDriverSays (os : Os) (started : os.Started) (H : Type) (enc : TypeId × Value → H) :
    ReturnsInHanded {} Tryz.checked os 3 .any (fun w args => (Rows.driverSaysSpec.pre enc Tryz.prog Tryz.f3 Rows.driverSaysRow.domain false w args ∧ laidMetH Tryz.prog Rows.driverSaysRow.laid w) ∧ sizedMet enc Tryz.prog Tryz.f3 (OpenSpec.ofChange Rows.driverSaysSpec) false w args) (Rows.driverSaysSpec.post enc Tryz.prog Tryz.f3 false true false false) := by
  refine Gv.returns_both (C := Tryz.checked) (X := fun w _ => laidMetH Tryz.prog Rows.driverSaysRow.laid w) (fun _ _ _ hh h => h.of_heap hh) ownDriverSays started (by kernel_rfl) Tryz.func3
    (ChangeSpec.witness_shaped (enc := enc) (C := Tryz.checked) (os := os) (X := fun w _ => laidMetH Tryz.prog Rows.driverSaysRow.laid w) false (World.laidAll Tryz.prog os Rows.driverSaysRow.laid) #[(.slice none 0 0), (.slice none 0 0), (.agg #[(.slice none 0 0), (.slice none 0 0), (.string ⟨#[]⟩)]), (.int .i64 0), (.int .i64 0), (.slice none 0 0)] 8 (World.laidAll_os _ _ _)
      (World.shaped_of_ZipB (by kernel_rfl) (by kernel_rfl)) (by kernel_rfl) (by kernel_rfl) (by kernel_rfl)
      (by rw [MakeChecks.laidMetH_plain _ _ _ (by kernel_rfl)]; exact laidMet_laidAll _ (by kernel_rfl) (by kernel_rfl))) ?_
  intro W base args ds gs before hval0 hW hsz0 hL hsh
  have hval : ∀ (j : Nat) t v, Tryz.f3.params[j]? = some t → args[j]? = some v → Value.okWide Tryz.prog W .any base t v := hval0
  have hsz : (DataW.weightsEach Tryz.prog (Tryz.f3.params.toList ++ []) (ds ++ gs)).all (· ≤ reachBytes) = true := hsz0
  clear hsz0
  rw [MakeChecks.laidMetH_plain _ _ _ (by kernel_rfl)] at hL
  letI : Gv.Glob := Gv.worldGlob W
  haveI : Gv.Laid := ⟨Gv.all_int (P := Tryz.prog) hsh (g := 2) (t := 3) (zero := #[.int .i64 0]) (of_decide_eq_true (by kernel_rfl)) (by kernel_rfl) rfl (by kernel_rfl) (by kernel_rfl) Tryz.underlying3⟩
  have hP : laidMet Tryz.prog (("internal/strconv.uint64pow10", Lib.tabData .u64 Lib.pow10Tab) :: Rows.driverSaysRow.laid.drop 3) W := by
    rw [← pow10DriverSays]
    exact hL.tail.tail
  haveI : Gv.Nums := ⟨Gv.all_tab (Lib.tabIs_of_head (g := 5) (t := 339) (by kernel_rfl) (by kernel_rfl) Tryz.underlying339 Tryz.underlying260 (by kernel_rfl) (by kernel_rfl) hP)⟩
  haveI : Gv.Errs := ⟨fun w hw => let ⟨tp, p, e⟩ := laidErrSyntaxDriverSays hL; ⟨tp, p, Gv.all_var hw e⟩, fun w hw => let ⟨tp, p, e⟩ := laidErrRangeDriverSays hL; ⟨tp, p, Gv.all_var hw e⟩⟩
  have hW' := hW
  obtain ⟨p, q, hA0, hV, rfl, hfz, hnd⟩ := hW
  have hA : DataW.TrodAll enc Tryz.prog W 0 (fun _ => true) true Tryz.f3.params.toList args.toList ds p := hA0
  rw [Tryz.params3] at hA hval hsz
  obtain ⟨v0, vs0, d0, ds0, p0, q0, hargs, rfl, rfl, k0, r0⟩ := trodAll_cons hA
  obtain ⟨v1, vs1, d1, ds1, p1, q1, rfl, rfl, rfl, k1, r1⟩ := trodAll_cons r0
  obtain ⟨v2, vs2, d2, ds2, p2, q2, rfl, rfl, rfl, k2, r2⟩ := trodAll_cons r1
  obtain ⟨v3, vs3, d3, ds3, p3, q3, rfl, rfl, rfl, k3, r3⟩ := trodAll_cons r2
  obtain ⟨v4, vs4, d4, ds4, p4, q4, rfl, rfl, rfl, k4, r4⟩ := trodAll_cons r3
  obtain ⟨v5, vs5, d5, ds5, p5, q5, rfl, rfl, rfl, k5, r5⟩ := trodAll_cons r4
  obtain ⟨rfl, rfl, rfl⟩ := trodAll_nil r5
  obtain rfl : args = #[v0, v1, v2, v3, v4, v5] := by cases args; simp_all
  obtain ⟨rfl, rfl⟩ := trodVars_none hV
  have lt0 : ∀ x ∈ p0, x.block < W.heap.size := by obtain ⟨m, hm⟩ := k0; exact DataW.trod_lt m _ _ _ hm
  have lt1 : ∀ x ∈ p1, x.block < W.heap.size := by obtain ⟨m, hm⟩ := k1; exact DataW.trod_lt m _ _ _ hm
  have lt2 : ∀ x ∈ p2, x.block < W.heap.size := by obtain ⟨m, hm⟩ := k2; exact DataW.trod_lt m _ _ _ hm
  have lt3 : ∀ x ∈ p3, x.block < W.heap.size := by obtain ⟨m, hm⟩ := k3; exact DataW.trod_lt m _ _ _ hm
  have lt4 : ∀ x ∈ p4, x.block < W.heap.size := by obtain ⟨m, hm⟩ := k4; exact DataW.trod_lt m _ _ _ hm
  have lt5 : ∀ x ∈ p5, x.block < W.heap.size := by obtain ⟨m, hm⟩ := k5; exact DataW.trod_lt m _ _ _ hm
  have wt0 : ∀ n ∈ d0.weights Tryz.prog 22, n ≤ reachBytes := fun n hn => by simpa using List.all_eq_true.1 hsz n (DataW.weights_mem_each (j := 0) rfl rfl n hn)
  have wt1 : ∀ n ∈ d1.weights Tryz.prog 23, n ≤ reachBytes := fun n hn => by simpa using List.all_eq_true.1 hsz n (DataW.weights_mem_each (j := 1) rfl rfl n hn)
  have wt2 : ∀ n ∈ d2.weights Tryz.prog 27, n ≤ reachBytes := fun n hn => by simpa using List.all_eq_true.1 hsz n (DataW.weights_mem_each (j := 2) rfl rfl n hn)
  have wt3 : ∀ n ∈ d3.weights Tryz.prog 3, n ≤ reachBytes := fun n hn => by simpa using List.all_eq_true.1 hsz n (DataW.weights_mem_each (j := 3) rfl rfl n hn)
  have wt4 : ∀ n ∈ d4.weights Tryz.prog 3, n ≤ reachBytes := fun n hn => by simpa using List.all_eq_true.1 hsz n (DataW.weights_mem_each (j := 4) rfl rfl n hn)
  have wt5 : ∀ n ∈ d5.weights Tryz.prog 28, n ≤ reachBytes := fun n hn => by simpa using List.all_eq_true.1 hsz n (DataW.weights_mem_each (j := 5) rfl rfl n hn)
  obtain ⟨a0, I0, g0⟩ := Gv.arg_slice Tryz.underlying22 (hval 0 22 v0 rfl rfl) (Gv.opn_slice (k := 2) Tryz.underlying22 (by kernel_rfl) (by omega) Gv.opn_file) k0 wt0
  obtain ⟨a1, I1, g1⟩ := Gv.arg_slice Tryz.underlying23 (hval 1 23 v1 rfl rfl) (Gv.opn_slice (k := 3) Tryz.underlying23 (by kernel_rfl) (by omega) Gv.opn_line) k1 wt1
  obtain ⟨a2, I2, g2⟩ := Gv.arg_struct Tryz.underlying27 (hval 2 27 v2 rfl rfl) Gv.opn_line k2 wt2
  obtain ⟨a3, I3, g3⟩ := Gv.arg_int Tryz.underlying3 (hval 3 3 v3 rfl rfl) (Gv.opn_int Tryz.underlying3) (fun _ => rfl) k3 wt3
  obtain ⟨a4, I4, g4⟩ := Gv.arg_int Tryz.underlying3 (hval 4 3 v4 rfl rfl) (Gv.opn_int Tryz.underlying3) (fun _ => rfl) k4 wt4
  obtain ⟨a5, I5, g5⟩ := Gv.arg_slice Tryz.underlying28 (hval 5 28 v5 rfl rfl) (Gv.opn_slice (k := 1) Tryz.underlying28 (by kernel_rfl) (by omega) (Gv.opn_int Tryz.underlying3)) k5 wt5
  clear hA0 hval0
  refine (Gv.law_calls Gv.dSaysT_ok W (Gv.worldGlob_le W) rfl (Gv.vr_cons g0 (Gv.vr_cons g1 (Gv.vr_cons g2 (Gv.vr_cons g3 (Gv.vr_cons g4 (Gv.vr_cons g5 Gv.vr_nil)))))) ⟨a0, a1, a2, a3, a4, a5, rfl, ⟨I3, I4⟩, rfl⟩).mono fun e W' ⟨he, bel0⟩ => ?_
  have bel := bel0.below
  subst he
  exact ⟨_, rfl, _, _, _, [], _, [], hW', trodAll_mk1 (shut_bool Tryz.underlying4 _), (trodAll_cons_mk (Below.trod laidOutDriverSays (by kernel_rfl) (of_decide_eq_true (by kernel_rfl)) k0 bel lt0) (trodAll_cons_mk (Below.trod laidOutDriverSays (by kernel_rfl) (of_decide_eq_true (by kernel_rfl)) k1 bel lt1) (trodAll_cons_mk (Below.trod laidOutDriverSays (by kernel_rfl) (of_decide_eq_true (by kernel_rfl)) k2 bel lt2) (trodAll_cons_mk (Below.trod laidOutDriverSays (by kernel_rfl) (of_decide_eq_true (by kernel_rfl)) k3 bel lt3) (trodAll_cons_mk (Below.trod laidOutDriverSays (by kernel_rfl) (of_decide_eq_true (by kernel_rfl)) k4 bel lt4) (trodAll_cons_mk (Below.trod laidOutDriverSays (by kernel_rfl) (of_decide_eq_true (by kernel_rfl)) k5 bel lt5) trodAll_mk0)))))), rfl, bel.frame _, fun h => by cases h⟩

theorem and_t {a b : Bool} (h : a = true) (k : b = true) : (a && b) = true := by rw [h, k]; rfl
theorem fact0DriverSays : (Rows.driverSaysRow.wf (OpenSpec.ofChange Rows.driverSaysSpec)) = true := by kernel_rfl
theorem fact1DriverSays : (laidOutB Tryz.prog) = true := by kernel_rfl
theorem fact2DriverSays : (mapsRowed Tryz.prog) = true := by kernel_rfl
theorem fact3DriverSays : (Tryz.f3.params.all (Tryz.prog.readableRec ·)) = true := by kernel_rfl
theorem fact4DriverSays : (namedTie Tryz.prog Rows.driverSaysRow.named Rows.driverSaysSpec.vars) = true := by kernel_rfl
theorem fact5DriverSays : ((Rows.driverSaysRow.stops == [])) = true := by kernel_rfl
theorem fact6DriverSays : ((Tryz.prog.stops == [])) = true := by kernel_rfl
theorem fact7DriverSays : ((Rows.driverSaysRow.knobs == [])) = true := by kernel_rfl
theorem fact8DriverSays : ((Tryz.prog.stopKnobs == [])) = true := by kernel_rfl
theorem fact9DriverSays : ((Rows.driverSaysRow.inPlace == Tryz.prog.inPlace 3)) = true := by kernel_rfl
theorem fact10DriverSays : ((Rows.driverSaysRow.unfollowed == Tryz.prog.unfollowed 3)) = true := by kernel_rfl
theorem fact11DriverSays : ((Rows.driverSaysRow.recurses == Tryz.prog.recurses 3)) = true := by kernel_rfl
theorem fact12DriverSays : ((Rows.driverSaysRow.named == Tryz.prog.varsNamed 3)) = true := by kernel_rfl
theorem fact13DriverSays : ((Rows.driverSaysRow.maps == (Tryz.f3.params.toList ++ Rows.driverSaysSpec.plain.varTypes Tryz.prog).any (Tryz.prog.mapsRec ·))) = true := by kernel_rfl
theorem fact14DriverSays : ((Rows.driverSaysRow.ifaces == (Tryz.f3.params.toList ++ Rows.driverSaysSpec.plain.varTypes Tryz.prog).any (Tryz.prog.ifacesRec ·))) = true := by kernel_rfl
theorem fact15DriverSays : ((Rows.driverSaysRow.mapsOut == Tryz.prog.mapsAmong Tryz.f3.resultTypes.toList)) = true := by kernel_rfl
theorem fact16DriverSays : ((Rows.driverSaysRow.loops == (Tryz.f3.params.toList ++ Rows.driverSaysSpec.plain.varTypes Tryz.prog).any (Tryz.prog.loopsFrom ·))) = true := by kernel_rfl
theorem fact17DriverSays : ((Rows.driverSaysRow.wideKeys == (Tryz.f3.params.toList ++ Rows.driverSaysSpec.plain.varTypes Tryz.prog ++ Tryz.f3.resultTypes.toList).any (Tryz.prog.wideKeysFrom ·))) = true := by kernel_rfl
theorem fact18DriverSays : (Rows.driverSaysSpec.vars.all (Tryz.prog.varReadable ·)) = true := by kernel_rfl
theorem fact19DriverSays : (Tryz.f3.resultTypes.all (fun t => Tryz.prog.readableRec t && decide (t < Tryz.prog.types.size))) = true := by kernel_rfl
theorem fact20DriverSays : ((Rows.driverSaysRow.ifacesOut == Tryz.f3.resultTypes.toList.any (Tryz.prog.ifacesRec ·))) = true := by kernel_rfl
theorem fact21DriverSays : ((Rows.driverSaysRow.loopsOut == Tryz.f3.resultTypes.toList.any (Tryz.prog.loopsFrom ·))) = true := by kernel_rfl
theorem fact22DriverSays : ((Rows.driverSaysRow.plainKeys == Tryz.prog.plainKeys)) = true := by kernel_rfl
theorem fact23DriverSays : (Rows.driverSaysRow.shortTexts.isNone) = true := by kernel_rfl
theorem fact24DriverSays : (Tryz.prog.stopsHeard) = true := by kernel_rfl
theorem fact25DriverSays : (Tryz.prog.mayEnter) = true := by kernel_rfl
theorem fact26DriverSays : ((Rows.driverSaysRow.lifted == Tryz.prog.liftsFinal)) = true := by kernel_rfl
theorem fact27DriverSays : ((Tryz.prog.make == some Rows.driverSaysRow.make)) = true := by kernel_rfl
theorem fact28DriverSays : ((Rows.driverSaysRow.kinds == (if Rows.driverSaysRow.domain.isEmpty then [] else Tryz.f3.params.toList.map fun t => match Tryz.prog.underlying t with | some (.int k) => some k | _ => none))) = true := by kernel_rfl
theorem fact29DriverSays : ((Rows.driverSaysRow.pinned == Rows.driverSaysRow.pinnedBy)) = true := by kernel_rfl
theorem fact30DriverSays : ((Rows.driverSaysRow.veiled == (Tryz.f3.params.toList ++ Rows.driverSaysSpec.plain.varTypes Tryz.prog ++ Tryz.f3.resultTypes.toList).any (Tryz.prog.veiledRec ·))) = true := by kernel_rfl
theorem fact31DriverSays : (Rows.driverSaysRow.veiledFits Tryz.prog Tryz.f3.params.toList (Tryz.f3.params.toList ++ Rows.driverSaysSpec.plain.varTypes Tryz.prog ++ Tryz.f3.resultTypes.toList)) = true := by kernel_rfl
set_option maxRecDepth 100000 in
theorem closedDriverSays : joinedFacts Tryz.prog 3 Tryz.f3 Rows.driverSaysSpec Rows.driverSaysRow = true := by
  unfold joinedFacts
  exact (and_t (and_t (and_t (and_t (and_t (and_t (and_t (and_t (and_t (and_t (and_t (and_t (and_t (and_t (and_t (and_t (and_t (and_t (and_t (and_t (and_t (and_t (and_t (and_t (and_t (and_t (and_t (and_t (and_t (and_t (and_t fact0DriverSays fact1DriverSays) fact2DriverSays) fact3DriverSays) fact4DriverSays) fact5DriverSays) fact6DriverSays) fact7DriverSays) fact8DriverSays) fact9DriverSays) fact10DriverSays) fact11DriverSays) fact12DriverSays) fact13DriverSays) fact14DriverSays) fact15DriverSays) fact16DriverSays) fact17DriverSays) fact18DriverSays) fact19DriverSays) fact20DriverSays) fact21DriverSays) fact22DriverSays) fact23DriverSays) fact24DriverSays) fact25DriverSays) fact26DriverSays) fact27DriverSays) fact28DriverSays) fact29DriverSays) fact30DriverSays) fact31DriverSays)
theorem fNamedDriverSays : Tryz.prog.funcNamed "gangsaw/gangsawlaw.DriverSays" = some 3 := by kernel_rfl
theorem instDriverSays : Tryz.f3.isInstance Tryz.prog Rows.driverSaysRow.origin Rows.driverSaysRow.targs := of_decide_eq_true (by kernel_rfl)
theorem wrapDriverSays : Tryz.f3.isWrapper Tryz.prog Rows.driverSaysRow.wrapper Rows.driverSaysRow.mainSum := by unfold Func.isWrapper; first | (rw [if_pos (by decide +kernel)]; kernel_rfl) | (rw [if_neg (by decide +kernel)]; exact ⟨rfl, rfl⟩)
theorem overDriverSays : Rows.driverSaysRow.holds Tryz.pinned (OpenSpec.ofChange Rows.driverSaysSpec) :=
  OpenClaim.holds_of_wide 3 Tryz.f3 rfl rfl rfl rfl rfl rfl rfl ⟨rfl, rfl, rfl, rfl, rfl⟩ rfl rfl rfl rfl rfl fNamedDriverSays Tryz.func3 closedDriverSays instDriverSays wrapDriverSays
    (fun os started H enc _ => liftedDriverSays os started H enc)

theorem byTextDriverSays : Rows.driverSaysRow.wfByText (OpenSpec.ofChange Rows.driverSaysSpec) = true := by kernel_rfl
theorem mainDriverSays : Tryz.prog.mainIs = some (((true, "b426d36aee87a7ddd55f45017cccf55016e8ded7f58b3cb4097dc16445e1fe35") : Bool × String).1, ((true, "b426d36aee87a7ddd55f45017cccf55016e8ded7f58b3cb4097dc16445e1fe35") : Bool × String).2.toList) := by kernel_rfl
theorem looksDriverSays : true = Tryz.prog.looks [] := by kernel_rfl
theorem standDriverSays : ([22, 23, 27, 3, 3, 28].all fun u => !Tryz.prog.wantsStandIn u) = true := by kernel_rfl
theorem goesDriverSays : false = Rows.driverSaysRow.goesBy Tryz.prog := by kernel_rfl
theorem provedDriverSays : Rows.DriverSaysCardSaid :=
  Claim7.holds_tied_plain_at .later [] [.data, .data, .data, .data, .sentinel, .sentinel, .pinned] true (true, "b426d36aee87a7ddd55f45017cccf55016e8ded7f58b3cb4097dc16445e1fe35") true
    overDriverSays (fun _ h => by cases h) byTextDriverSays (fun _ h => by cases h) driverSays_row_tie rfl ⟨rfl, rfl⟩ mainDriverSays rfl
    (fun f fn hf hfn => by
      obtain rfl : f = 3 := Option.some.inj (fNamedDriverSays.symm.trans hf) |>.symm
      obtain rfl : fn = Tryz.f3 := (Option.some.inj (Tryz.func3.symm.trans hfn)).symm
      exact ⟨looksDriverSays, fun j t ht => by
        rw [Tryz.params3] at ht
        have hm : t ∈ [22, 23, 27, 3, 3, 28] := by simpa using Array.mem_of_getElem? ht
        exact (show Tryz.prog.wantsStandIn t = false by simpa using List.all_eq_true.1 standDriverSays t hm)⟩)
    goesDriverSays

end Go.Proofs.YtffljdmmambdjabGreatDoor

