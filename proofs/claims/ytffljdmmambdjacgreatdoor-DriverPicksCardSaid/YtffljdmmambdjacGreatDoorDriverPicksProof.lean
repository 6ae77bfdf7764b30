/- DriverPicks, as it is given: for every input the law returns true, and each argument reads as it did; the row's condition is what the card ties: the listed variables hold what the program's text lays. -/
import Derived.Test.YtffljdmmambdjacGreatDoorF3
import Derived.Test.YtffljdmmambdjacGreatDoorCards
import Derived.Test.YtffljdmmambdjacGreatDoorTie
import Derived.ProofKit
import Derived.OpenShut
import Derived.ChangeOld
import Derived.Below
import Derived.SizedLaws
import Derived.LaidMore
import Derived.Lay
import Derived.SevenTiedAt
import Derived.Stop.LaidErr
import Derived.LaidLaws
set_option linter.unusedVariables false
set_option linter.unusedSimpArgs false
namespace Go.Proofs.YtffljdmmambdjacGreatDoor
open Go.Proofs Go.RowKit
open Go.ChangeShapes Go.WideShapes Go.ChangeAt

theorem pow10DriverPicks : Rows.laid_internal_strconv_uint64pow10 (H := Unit) = Lib.tabData .u64 Lib.pow10Tab := by kernel_rfl
theorem starDriverPicks : "*" ++ "errors.errorString" = "*errors.errorString" := by decide
theorem rowErrDriverPicks (u : TypeId) (h : Tryz.prog.typeName? 3 u = some "*errors.errorString") : u = 323 :=
  typeName_ptr_named (nm := "errors.errorString") (by rw [starDriverPicks]; kernel_rfl) (by kernel_rfl) (by decide) u (by rw [starDriverPicks]; exact h)
theorem gErrSyntaxDriverPicks : Tryz.prog.globalNamed "strconv.ErrSyntax" = some 4 := by kernel_rfl
theorem tErrSyntaxDriverPicks : (Tryz.prog.globals[4]?).map (·.type) = some 237 := by kernel_rfl
theorem laidErrSyntaxDriverPicks {W : World} (h : laidMet Tryz.prog Rows.driverPicksRow.laid W) : ∃ tp p, W.var? Tryz.prog "strconv.ErrSyntax" = some #[.iface tp p] := by
  obtain ⟨a, s, hv, -, -, -⟩ := laid_sentinel (h.tail.tail.tail.tail.tail) gErrSyntaxDriverPicks tErrSyntaxDriverPicks Tryz.underlying237 rowErrDriverPicks Tryz.underlying323 Tryz.underlying325 rfl rfl Tryz.underlying9 (show Tryz.prog.cellsOf 325 = 1 by kernel_rfl) (show Tryz.prog.cellsOf 9 = 1 by kernel_rfl)
  exact ⟨_, _, hv⟩
theorem gErrRangeDriverPicks : Tryz.prog.globalNamed "strconv.ErrRange" = some 5 := by kernel_rfl
theorem tErrRangeDriverPicks : (Tryz.prog.globals[5]?).map (·.type) = some 237 := by kernel_rfl
theorem laidErrRangeDriverPicks {W : World} (h : laidMet Tryz.prog Rows.driverPicksRow.laid W) : ∃ tp p, W.var? Tryz.prog "strconv.ErrRange" = some #[.iface tp p] := by
  obtain ⟨a, s, hv, -, -, -⟩ := laid_sentinel (h.tail.tail.tail.tail) gErrRangeDriverPicks tErrRangeDriverPicks Tryz.underlying237 rowErrDriverPicks Tryz.underlying323 Tryz.underlying325 rfl rfl Tryz.underlying9 (show Tryz.prog.cellsOf 325 = 1 by kernel_rfl) (show Tryz.prog.cellsOf 9 = 1 by kernel_rfl)
  exact ⟨_, _, hv⟩
theorem ownDriverPicks : ownKnob Tryz.prog.godebug = none := by kernel_rfl
theorem laidOutDriverPicks : laidOutB Tryz.prog = true := by kernel_rfl
set_option maxRecDepth 100000 in
theorem liftedDriverPicks (os : Os) (started : os.Started) (H : Type) (enc : TypeId × Value → H) :
    ReturnsInHanded {} Tryz.checked os 11 .any (fun w args => (Rows.driverPicksSpec.pre enc Tryz.prog Tryz.f11 Rows.driverPicksRow.domain false w args ∧ laidMetH Tryz.prog Rows.driverPicksRow.laid w) ∧ sizedMet enc Tryz.prog Tryz.f11 (OpenSpec.ofChange Rows.driverPicksSpec) false w args) (Rows.driverPicksSpec.post enc Tryz.prog Tryz.f11 false true false false) := by
  refine Gv.returns_both (C := Tryz.checked) (X := fun w _ => laidMetH Tryz.prog Rows.driverPicksRow.laid w) (fun _ _ _ hh h => h.of_heap hh) ownDriverPicks started (by kernel_rfl) Tryz.func11
    (ChangeSpec.witness_shaped (enc := enc) (C := Tryz.checked) (os := os) (X := fun w _ => laidMetH Tryz.prog Rows.driverPicksRow.laid w) false (World.laidAll Tryz.prog os Rows.driverPicksRow.laid) #[(.slice none 0 0), (.agg #[(.slice none 0 0), (.slice none 0 0), (.string ⟨#[]⟩)]), (.int .i64 0), (.int .i64 0), (.slice none 0 0)] 8 (World.laidAll_os _ _ _)
      (World.shaped_of_ZipB (by kernel_rfl) (by kernel_rfl)) (by kernel_rfl) (by kernel_rfl) (by kernel_rfl)
      (by rw [MakeChecks.laidMetH_plain _ _ _ (by kernel_rfl)]; exact laidMet_laidAll _ (by kernel_rfl) (by kernel_rfl))) ?_
  intro W base args ds gs before hval0 hW hsz0 hL hsh
  have hval : ∀ (j : Nat) t v, Tryz.f11.params[j]? = some t → args[j]? = some v → Value.okWide Tryz.prog W .any base t v := hval0
  have hsz : (DataW.weightsEach Tryz.prog (Tryz.f11.params.toList ++ []) (ds ++ gs)).all (· ≤ reachBytes) = true := hsz0
  clear hsz0
  rw [MakeChecks.laidMetH_plain _ _ _ (by kernel_rfl)] at hL
  letI : Gv.Glob := Gv.worldGlob W
  haveI : Gv.Laid := ⟨Gv.all_int (P := Tryz.prog) hsh (g := 0) (t := 3) (zero := #[.int .i64 0]) (of_decide_eq_true (by kernel_rfl)) (by kernel_rfl) rfl (by kernel_rfl) (by kernel_rfl) Tryz.underlying3⟩
  have hP : laidMet Tryz.prog (("internal/strconv.uint64pow10", Lib.tabData .u64 Lib.pow10Tab) :: Rows.driverPicksRow.laid.drop 3) W := by
    rw [← pow10DriverPicks]
    exact hL.tail.tail
  haveI : Gv.Nums := ⟨Gv.all_tab (Lib.tabIs_of_head (g := 3) (t := 312) (by kernel_rfl) (by kernel_rfl) Tryz.underlying312 Tryz.underlying225 (by kernel_rfl) (by kernel_rfl) hP)⟩
  haveI : Gv.Errs := ⟨fun w hw => let ⟨tp, p, e⟩ := laidErrSyntaxDriverPicks hL; ⟨tp, p, Gv.all_var hw e⟩, fun w hw => let ⟨tp, p, e⟩ := laidErrRangeDriverPicks hL; ⟨tp, p, Gv.all_var hw e⟩⟩
  have hW' := hW
  obtain ⟨p, q, hA0, hV, rfl, hfz, hnd⟩ := hW
  have hA : DataW.TrodAll enc Tryz.prog W 0 (fun _ => true) true Tryz.f11.params.toList args.toList ds p := hA0
  rw [Tryz.params11] at hA hval hsz
  obtain ⟨v0, vs0, d0, ds0, p0, q0, hargs, rfl, rfl, k0, r0⟩ := trodAll_cons hA
  obtain ⟨v1, vs1, d1, ds1, p1, q1, rfl, rfl, rfl, k1, r1⟩ := trodAll_cons r0
  obtain ⟨v2, vs2, d2, ds2, p2, q2, rfl, rfl, rfl, k2, r2⟩ := trodAll_cons r1
  obtain ⟨v3, vs3, d3, ds3, p3, q3, rfl, rfl, rfl, k3, r3⟩ := trodAll_cons r2
  obtain ⟨v4, vs4, d4, ds4, p4, q4, rfl, rfl, rfl, k4, r4⟩ := trodAll_cons r3
  obtain ⟨rfl, rfl, rfl⟩ := trodAll_nil r4
  obtain rfl : args = #[v0, v1, v2, v3, v4] := by cases args; simp_all
  obtain ⟨rfl, rfl⟩ := trodVars_none hV
  have lt0 : ∀ x ∈ p0, x.block < W.heap.size := by obtain ⟨m, hm⟩ := k0; exact DataW.trod_lt m _ _ _ hm
  have lt1 : ∀ x ∈ p1, x.block < W.heap.size := by obtain ⟨m, hm⟩ := k1; exact DataW.trod_lt m _ _ _ hm
  have lt2 : ∀ x ∈ p2, x.block < W.heap.size := by obtain ⟨m, hm⟩ := k2; exact DataW.trod_lt m _ _ _ hm
  have lt3 : ∀ x ∈ p3, x.block < W.heap.size := by obtain ⟨m, hm⟩ := k3; exact DataW.trod_lt m _ _ _ hm
  have lt4 : ∀ x ∈ p4, x.block < W.heap.size := by obtain ⟨m, hm⟩ := k4; exact DataW.trod_lt m _ _ _ hm
  have wt0 : ∀ n ∈ d0.weights Tryz.prog 25, n ≤ reachBytes := fun n hn => by simpa using List.all_eq_true.1 hsz n (DataW.weights_mem_each (j := 0) rfl rfl n hn)
  have wt1 : ∀ n ∈ d1.weights Tryz.prog 68, n ≤ reachBytes := fun n hn => by simpa using List.all_eq_true.1 hsz n (DataW.weights_mem_each (j := 1) rfl rfl n hn)
  have wt2 : ∀ n ∈ d2.weights Tryz.prog 3, n ≤ reachBytes := fun n hn => by simpa using List.all_eq_true.1 hsz n (DataW.weights_mem_each (j := 2) rfl rfl n hn)
  have wt3 : ∀ n ∈ d3.weights Tryz.prog 3, n ≤ reachBytes := fun n hn => by simpa using List.all_eq_true.1 hsz n (DataW.weights_mem_each (j := 3) rfl rfl n hn)
  have wt4 : ∀ n ∈ d4.weights Tryz.prog 53, n ≤ reachBytes := fun n hn => by simpa using List.all_eq_true.1 hsz n (DataW.weights_mem_each (j := 4) rfl rfl n hn)
  obtain ⟨a0, I0, g0⟩ := Gv.arg_slice Tryz.underlying25 (hval 0 25 v0 rfl rfl) (Gv.opn_slice (k := 2) Tryz.underlying25 (by kernel_rfl) (by omega) Gv.opn_file) k0 wt0
  obtain ⟨a1, I1, g1⟩ := Gv.arg_struct Tryz.underlying68 (hval 1 68 v1 rfl rfl) Gv.opn_line k1 wt1
  obtain ⟨a2, I2, g2⟩ := Gv.arg_int Tryz.underlying3 (hval 2 3 v2 rfl rfl) (Gv.opn_int Tryz.underlying3) (fun _ => rfl) k2 wt2
  obtain ⟨a3, I3, g3⟩ := Gv.arg_int Tryz.underlying3 (hval 3 3 v3 rfl rfl) (Gv.opn_int Tryz.underlying3) (fun _ => rfl) k3 wt3
  obtain ⟨a4, I4, g4⟩ := Gv.arg_slice Tryz.underlying53 (hval 4 53 v4 rfl rfl) (Gv.opn_slice (k := 1) Tryz.underlying53 (by kernel_rfl) (by omega) (Gv.opn_int Tryz.underlying3)) k4 wt4
  clear hA0 hval0
  refine (Gv.law_calls Gv.dPicksT_ok W (Gv.worldGlob_le W) rfl (Gv.vr_cons g0 (Gv.vr_cons g1 (Gv.vr_cons g2 (Gv.vr_cons g3 (Gv.vr_cons g4 Gv.vr_nil))))) ⟨a0, a1, a2, a3, a4, rfl, ⟨I2, I3⟩, rfl⟩).mono fun e W' ⟨he, bel0⟩ => ?_
  have bel := bel0.below
  subst he
  exact ⟨_, rfl, _, _, _, [], _, [], hW', trodAll_mk1 (shut_bool Tryz.underlying4 _), (trodAll_cons_mk (Below.trod laidOutDriverPicks (by kernel_rfl) (of_decide_eq_true (by kernel_rfl)) k0 bel lt0) (trodAll_cons_mk (Below.trod laidOutDriverPicks (by kernel_rfl) (of_decide_eq_true (by kernel_rfl)) k1 bel lt1) (trodAll_cons_mk (Below.trod laidOutDriverPicks (by kernel_rfl) (of_decide_eq_true (by kernel_rfl)) k2 bel lt2) (trodAll_cons_mk (Below.trod laidOutDriverPicks (by kernel_rfl) (of_decide_eq_true (by kernel_rfl)) k3 bel lt3) (trodAll_cons_mk (Below.trod laidOutDriverPicks (by kernel_rfl) (of_decide_eq_true (by kernel_rfl)) k4 bel lt4) trodAll_mk0))))), rfl, bel.frame _, fun h => by cases h⟩

theorem and_t {a b : Bool} (h : a = true) (k : b = true) : (a && b) = true := by rw [h, k]; rfl
theorem fact0DriverPicks : (Rows.driverPicksRow.wf (OpenSpec.ofChange Rows.driverPicksSpec)) = true := by kernel_rfl
theorem fact1DriverPicks : (laidOutB Tryz.prog) = true := by kernel_rfl
theorem fact2DriverPicks : (mapsRowed Tryz.prog) = true := by kernel_rfl
theorem fact3DriverPicks : (Tryz.f11.params.all (Tryz.prog.readableRec ·)) = true := by kernel_rfl
theorem fact4DriverPicks : (namedTie Tryz.prog Rows.driverPicksRow.named Rows.driverPicksSpec.vars) = true := by kernel_rfl
theorem fact5DriverPicks : ((Rows.driverPicksRow.stops == [])) = true := by kernel_rfl
theorem fact6DriverPicks : ((Tryz.prog.stops == [])) = true := by kernel_rfl
theorem fact7DriverPicks : ((Rows.driverPicksRow.knobs == [])) = true := by kernel_rfl
theorem fact8DriverPicks : ((Tryz.prog.stopKnobs == [])) = true := by kernel_rfl
theorem fact9DriverPicks : ((Rows.driverPicksRow.inPlace == Tryz.prog.inPlace 11)) = true := by kernel_rfl
theorem fact10DriverPicks : ((Rows.driverPicksRow.unfollowed == Tryz.prog.unfollowed 11)) = true := by kernel_rfl
theorem fact11DriverPicks : ((Rows.driverPicksRow.recurses == Tryz.prog.recurses 11)) = true := by kernel_rfl
theorem fact12DriverPicks : ((Rows.driverPicksRow.named == Tryz.prog.varsNamed 11)) = true := by kernel_rfl
theorem fact13DriverPicks : ((Rows.driverPicksRow.maps == (Tryz.f11.params.toList ++ Rows.driverPicksSpec.plain.varTypes Tryz.prog).any (Tryz.prog.mapsRec ·))) = true := by kernel_rfl
theorem fact14DriverPicks : ((Rows.driverPicksRow.ifaces == (Tryz.f11.params.toList ++ Rows.driverPicksSpec.plain.varTypes Tryz.prog).any (Tryz.prog.ifacesRec ·))) = true := by kernel_rfl
theorem fact15DriverPicks : ((Rows.driverPicksRow.mapsOut == Tryz.prog.mapsAmong Tryz.f11.resultTypes.toList)) = true := by kernel_rfl
theorem fact16DriverPicks : ((Rows.driverPicksRow.loops == (Tryz.f11.params.toList ++ Rows.driverPicksSpec.plain.varTypes Tryz.prog).any (Tryz.prog.loopsFrom ·))) = true := by kernel_rfl
theorem fact17DriverPicks : ((Rows.driverPicksRow.wideKeys == (Tryz.f11.params.toList ++ Rows.driverPicksSpec.plain.varTypes Tryz.prog ++ Tryz.f11.resultTypes.toList).any (Tryz.prog.wideKeysFrom ·))) = true := by kernel_rfl
theorem fact18DriverPicks : (Rows.driverPicksSpec.vars.all (Tryz.prog.varReadable ·)) = true := by kernel_rfl
theorem fact19DriverPicks : (Tryz.f11.resultTypes.all (fun t => Tryz.prog.readableRec t && decide (t < Tryz.prog.types.size))) = true := by kernel_rfl
theorem fact20DriverPicks : ((Rows.driverPicksRow.ifacesOut == Tryz.f11.resultTypes.toList.any (Tryz.prog.ifacesRec ·))) = true := by kernel_rfl
theorem fact21DriverPicks : ((Rows.driverPicksRow.loopsOut == Tryz.f11.resultTypes.toList.any (Tryz.prog.loopsFrom ·))) = true := by kernel_rfl
theorem fact22DriverPicks : ((Rows.driverPicksRow.plainKeys == Tryz.prog.plainKeys)) = true := by kernel_rfl
theorem fact23DriverPicks : (Rows.driverPicksRow.shortTexts.isNone) = true := by kernel_rfl
theorem fact24DriverPicks : (Tryz.prog.stopsHeard) = true := by kernel_rfl
theorem fact25DriverPicks : (Tryz.prog.mayEnter) = true := by kernel_rfl
theorem fact26DriverPicks : ((Rows.driverPicksRow.lifted == Tryz.prog.liftsFinal)) = true := by kernel_rfl
theorem fact27DriverPicks : ((Tryz.prog.make == some Rows.driverPicksRow.make)) = true := by kernel_rfl
theorem fact28DriverPicks : ((Rows.driverPicksRow.kinds == (if Rows.driverPicksRow.domain.isEmpty then [] else Tryz.f11.params.toList.map fun t => match Tryz.prog.underlying t with | some (.int k) => some k | _ => none))) = true := by kernel_rfl
theorem fact29DriverPicks : ((Rows.driverPicksRow.pinned == Rows.driverPicksRow.pinnedBy)) = true := by kernel_rfl
theorem fact30DriverPicks : ((Rows.driverPicksRow.veiled == (Tryz.f11.params.toList ++ Rows.driverPicksSpec.plain.varTypes Tryz.prog ++ Tryz.f11.resultTypes.toList).any (Tryz.prog.veiledRec ·))) = true := by kernel_rfl
theorem fact31DriverPicks : (Rows.driverPicksRow.veiledFits Tryz.prog Tryz.f11.params.toList (Tryz.f11.params.toList ++ Rows.driverPicksSpec.plain.varTypes Tryz.prog ++ Tryz.f11.resultTypes.toList)) = true := by kernel_rfl
set_option maxRecDepth 100000 in
theorem closedDriverPicks : joinedFacts Tryz.prog 11 Tryz.f11 Rows.driverPicksSpec Rows.driverPicksRow = true := by
  unfold joinedFacts
  exact (and_t (and_t (and_t (and_t (and_t (and_t (and_t (and_t (and_t (and_t (and_t (and_t (and_t (and_t (and_t (and_t (and_t (and_t (and_t (and_t (and_t (and_t (and_t (and_t (and_t (and_t (and_t (and_t (and_t (and_t (and_t fact0DriverPicks fact1DriverPicks) fact2DriverPicks) fact3DriverPicks) fact4DriverPicks) fact5DriverPicks) fact6DriverPicks) fact7DriverPicks) fact8DriverPicks) fact9DriverPicks) fact10DriverPicks) fact11DriverPicks) fact12DriverPicks) fact13DriverPicks) fact14DriverPicks) fact15DriverPicks) fact16DriverPicks) fact17DriverPicks) fact18DriverPicks) fact19DriverPicks) fact20DriverPicks) fact21DriverPicks) fact22DriverPicks) fact23DriverPicks) fact24DriverPicks) fact25DriverPicks) fact26DriverPicks) fact27DriverPicks) fact28DriverPicks) fact29DriverPicks) fact30DriverPicks) fact31DriverPicks)
theorem fNamedDriverPicks : Tryz.prog.funcNamed "gangsaw/gangsawlaw.DriverPicks" = some 11 := by kernel_rfl
theorem instDriverPicks : Tryz.f11.isInstance Tryz.prog Rows.driverPicksRow.origin Rows.driverPicksRow.targs := of_decide_eq_true (by kernel_rfl)
theorem wrapDriverPicks : Tryz.f11.isWrapper Tryz.prog Rows.driverPicksRow.wrapper Rows.driverPicksRow.mainSum := by unfold Func.isWrapper; first | (rw [if_pos (by decide +kernel)]; kernel_rfl) | (rw [if_neg (by decide +kernel)]; exact ⟨rfl, rfl⟩)
theorem overDriverPicks : Rows.driverPicksRow.holds Tryz.pinned (OpenSpec.ofChange Rows.driverPicksSpec) :=
  OpenClaim.holds_of_wide 11 Tryz.f11 rfl rfl rfl rfl rfl rfl rfl ⟨rfl, rfl, rfl, rfl, rfl⟩ rfl rfl rfl rfl rfl fNamedDriverPicks Tryz.func11 closedDriverPicks instDriverPicks wrapDriverPicks
    (fun os started H enc _ => liftedDriverPicks os started H enc)

theorem byTextDriverPicks : Rows.driverPicksRow.wfByText (OpenSpec.ofChange Rows.driverPicksSpec) = true := by kernel_rfl
theorem mainDriverPicks : Tryz.prog.mainIs = some (((true, "9ab1331a6b96b3c3520091a15f421155077d78ec8e12f48cbefae1dfb71190e2") : Bool × String).1, ((true, "9ab1331a6b96b3c3520091a15f421155077d78ec8e12f48cbefae1dfb71190e2") : Bool × String).2.toList) := by kernel_rfl
theorem looksDriverPicks : true = Tryz.prog.looks [] := by kernel_rfl
theorem standDriverPicks : ([25, 68, 3, 3, 53].all fun u => !Tryz.prog.wantsStandIn u) = true := by kernel_rfl
theorem goesDriverPicks : false = Rows.driverPicksRow.goesBy Tryz.prog := by kernel_rfl
theorem provedDriverPicks : Rows.DriverPicksCardSaid :=
  Claim7.holds_tied_plain_at .later [] [.data, .data, .data, .data, .sentinel, .sentinel, .pinned] true (true, "9ab1331a6b96b3c3520091a15f421155077d78ec8e12f48cbefae1dfb71190e2") true
    overDriverPicks (fun _ h => by cases h) byTextDriverPicks (fun _ h => by cases h) driverPicks_row_tie rfl ⟨rfl, rfl⟩ mainDriverPicks rfl
    (fun f fn hf hfn => by
      obtain rfl : f = 11 := Option.some.inj (fNamedDriverPicks.symm.trans hf) |>.symm
      obtain rfl : fn = Tryz.f11 := (Option.some.inj (Tryz.func11.symm.trans hfn)).symm
      exact ⟨looksDriverPicks, fun j t ht => by
        rw [Tryz.params11] at ht
        have hm : t ∈ [25, 68, 3, 3, 53] := by simpa using Array.mem_of_getElem? ht
        exact (show Tryz.prog.wantsStandIn t = false by simpa using List.all_eq_true.1 standDriverPicks t hm)⟩)
    goesDriverPicks

end Go.Proofs.YtffljdmmambdjacGreatDoor

