/- ExecHead, as it is given: for every input the law returns true, and each argument reads as it did; the row's condition is what the card ties: the listed variables hold what the program's text lays. -/
import Derived.Test.YtffljdmmambdjacGreatDoorF3
import Derived.Test.YtffljdmmambdjacGreatDoorCards
import Derived.Test.YtffljdmmambdjacGreatDoorTie
import Derived.ProofKit
import Derived.OpenShut
import Derived.ChangeOld
import Derived.Below
import Derived.SizedLaws
import Derived.LaidMore
import Derived.Lay
import Derived.SevenTiedAt
import Derived.Stop.LaidErr
import Derived.LaidLaws
set_option linter.unusedVariables false
set_option linter.unusedSimpArgs false
namespace Go.Proofs.YtffljdmmambdjacGreatDoor
open Go.Proofs Go.RowKit
open Go.ChangeShapes Go.WideShapes Go.ChangeAt

theorem pow10ExecHead : Rows.laid_internal_strconv_uint64pow10 (H := Unit) = Lib.tabData .u64 Lib.pow10Tab := by kernel_rfl
theorem starExecHead : "*" ++ "errors.errorString" = "*errors.errorString" := by decide
theorem rowErrExecHead (u : TypeId) (h : Tryz.prog.typeName? 3 u = some "*errors.errorString") : u = 323 :=
  typeName_ptr_named (nm := "errors.errorString") (by rw [starExecHead]; kernel_rfl) (by kernel_rfl) (by decide) u (by rw [starExecHead]; exact h)
theorem gErrSyntaxExecHead : Tryz.prog.globalNamed "strconv.ErrSyntax" = some 4 := by kernel_rfl
theorem tErrSyntaxExecHead : (Tryz.prog.globals[4]?).map (·.type) = some 237 := by kernel_rfl
theorem laidErrSyntaxExecHead {W : World} (h : laidMet Tryz.prog Rows.execHeadRow.laid W) : ∃ tp p, W.var? Tryz.prog "strconv.ErrSyntax" = some #[.iface tp p] := by
  obtain ⟨a, s, hv, -, -, -⟩ := laid_sentinel (h.tail.tail.tail.tail.tail) gErrSyntaxExecHead tErrSyntaxExecHead Tryz.underlying237 rowErrExecHead Tryz.underlying323 Tryz.underlying325 rfl rfl Tryz.underlying9 (show Tryz.prog.cellsOf 325 = 1 by kernel_rfl) (show Tryz.prog.cellsOf 9 = 1 by kernel_rfl)
  exact ⟨_, _, hv⟩
theorem gErrRangeExecHead : Tryz.prog.globalNamed "strconv.ErrRange" = some 5 := by kernel_rfl
theorem tErrRangeExecHead : (Tryz.prog.globals[5]?).map (·.type) = some 237 := by kernel_rfl
theorem laidErrRangeExecHead {W : World} (h : laidMet Tryz.prog Rows.execHeadRow.laid W) : ∃ tp p, W.var? Tryz.prog "strconv.ErrRange" = some #[.iface tp p] := by
  obtain ⟨a, s, hv, -, -, -⟩ := laid_sentinel (h.tail.tail.tail.tail) gErrRangeExecHead tErrRangeExecHead Tryz.underlying237 rowErrExecHead Tryz.underlying323 Tryz.underlying325 rfl rfl Tryz.underlying9 (show Tryz.prog.cellsOf 325 = 1 by kernel_rfl) (show Tryz.prog.cellsOf 9 = 1 by kernel_rfl)
  exact ⟨_, _, hv⟩
theorem ownExecHead : ownKnob Tryz.prog.godebug = none := by kernel_rfl
theorem laidOutExecHead : laidOutB Tryz.prog = true := by kernel_rfl
set_option maxRecDepth 100000 in
theorem liftedExecHead (os : Os) (started : os.Started) (H : Type) (enc : TypeId × Value → H) :
    ReturnsInHanded {} Tryz.checked os 4 .any (fun w args => (Rows.execHeadSpec.pre enc Tryz.prog Tryz.f4 Rows.execHeadRow.domain false w args ∧ laidMetH Tryz.prog Rows.execHeadRow.laid w) ∧ sizedMet enc Tryz.prog Tryz.f4 (OpenSpec.ofChange Rows.execHeadSpec) false w args) (Rows.execHeadSpec.post enc Tryz.prog Tryz.f4 false true false false) := by
  refine Gv.returns_both (C := Tryz.checked) (X := fun w _ => laidMetH Tryz.prog Rows.execHeadRow.laid w) (fun _ _ _ hh h => h.of_heap hh) ownExecHead started (by kernel_rfl) Tryz.func4
    (ChangeSpec.witness_shaped (enc := enc) (C := Tryz.checked) (os := os) (X := fun w _ => laidMetH Tryz.prog Rows.execHeadRow.laid w) false (World.laidAll Tryz.prog os Rows.execHeadRow.laid) #[(.int .i64 0), (.slice none 0 0), (.int .i64 0), (.slice none 0 0)] 8 (World.laidAll_os _ _ _)
      (World.shaped_of_ZipB (by kernel_rfl) (by kernel_rfl)) (by kernel_rfl) (by kernel_rfl) (by kernel_rfl)
      (by rw [MakeChecks.laidMetH_plain _ _ _ (by kernel_rfl)]; exact laidMet_laidAll _ (by kernel_rfl) (by kernel_rfl))) ?_
  intro W base args ds gs before hval0 hW hsz0 hL hsh
  have hval : ∀ (j : Nat) t v, Tryz.f4.params[j]? = some t → args[j]? = some v → Value.okWide Tryz.prog W .any base t v := hval0
  have hsz : (DataW.weightsEach Tryz.prog (Tryz.f4.params.toList ++ []) (ds ++ gs)).all (· ≤ reachBytes) = true := hsz0
  clear hsz0
  rw [MakeChecks.laidMetH_plain _ _ _ (by kernel_rfl)] at hL
  letI : Gv.Glob := Gv.worldGlob W
  haveI : Gv.Laid := ⟨Gv.all_int (P := Tryz.prog) hsh (g := 0) (t := 3) (zero := #[.int .i64 0]) (of_decide_eq_true (by kernel_rfl)) (by kernel_rfl) rfl (by kernel_rfl) (by kernel_rfl) Tryz.underlying3⟩
  have hP : laidMet Tryz.prog (("internal/strconv.uint64pow10", Lib.tabData .u64 Lib.pow10Tab) :: Rows.execHeadRow.laid.drop 3) W := by
    rw [← pow10ExecHead]
    exact hL.tail.tail
  haveI : Gv.Nums := ⟨Gv.all_tab (Lib.tabIs_of_head (g := 3) (t := 312) (by kernel_rfl) (by kernel_rfl) Tryz.underlying312 Tryz.underlying225 (by kernel_rfl) (by kernel_rfl) hP)⟩
  haveI : Gv.Errs := ⟨fun w hw => let ⟨tp, p, e⟩ := laidErrSyntaxExecHead hL; ⟨tp, p, Gv.all_var hw e⟩, fun w hw => let ⟨tp, p, e⟩ := laidErrRangeExecHead hL; ⟨tp, p, Gv.all_var hw e⟩⟩
  have hW' := hW
  obtain ⟨p, q, hA0, hV, rfl, hfz, hnd⟩ := hW
  have hA : DataW.TrodAll enc Tryz.prog W 0 (fun _ => true) true Tryz.f4.params.toList args.toList ds p := hA0
  rw [Tryz.params4] at hA hval hsz
  obtain ⟨v0, vs0, d0, ds0, p0, q0, hargs, rfl, rfl, k0, r0⟩ := trodAll_cons hA
  obtain ⟨v1, vs1, d1, ds1, p1, q1, rfl, rfl, rfl, k1, r1⟩ := trodAll_cons r0
  obtain ⟨v2, vs2, d2, ds2, p2, q2, rfl, rfl, rfl, k2, r2⟩ := trodAll_cons r1
  obtain ⟨v3, vs3, d3, ds3, p3, q3, rfl, rfl, rfl, k3, r3⟩ := trodAll_cons r2
  obtain ⟨rfl, rfl, rfl⟩ := trodAll_nil r3
  obtain rfl : args = #[v0, v1, v2, v3] := by cases args; simp_all
  obtain ⟨rfl, rfl⟩ := trodVars_none hV
  have lt0 : ∀ x ∈ p0, x.block < W.heap.size := by obtain ⟨m, hm⟩ := k0; exact DataW.trod_lt m _ _ _ hm
  have lt1 : ∀ x ∈ p1, x.block < W.heap.size := by obtain ⟨m, hm⟩ := k1; exact DataW.trod_lt m _ _ _ hm
  have lt2 : ∀ x ∈ p2, x.block < W.heap.size := by obtain ⟨m, hm⟩ := k2; exact DataW.trod_lt m _ _ _ hm
  have lt3 : ∀ x ∈ p3, x.block < W.heap.size := by obtain ⟨m, hm⟩ := k3; exact DataW.trod_lt m _ _ _ hm
  have wt0 : ∀ n ∈ d0.weights Tryz.prog 3, n ≤ reachBytes := fun n hn => by simpa using List.all_eq_true.1 hsz n (DataW.weights_mem_each (j := 0) rfl rfl n hn)
  have wt1 : ∀ n ∈ d1.weights Tryz.prog 28, n ≤ reachBytes := fun n hn => by simpa using List.all_eq_true.1 hsz n (DataW.weights_mem_each (j := 1) rfl rfl n hn)
  have wt2 : ∀ n ∈ d2.weights Tryz.prog 3, n ≤ reachBytes := fun n hn => by simpa using List.all_eq_true.1 hsz n (DataW.weights_mem_each (j := 2) rfl rfl n hn)
  have wt3 : ∀ n ∈ d3.weights Tryz.prog 53, n ≤ reachBytes := fun n hn => by simpa using List.all_eq_true.1 hsz n (DataW.weights_mem_each (j := 3) rfl rfl n hn)
  obtain ⟨a0, I0, g0⟩ := Gv.arg_int Tryz.underlying3 (hval 0 3 v0 rfl rfl) (Gv.opn_int Tryz.underlying3) (fun _ => rfl) k0 wt0
  obtain ⟨a1, I1, g1⟩ := Gv.arg_slice Tryz.underlying28 (hval 1 28 v1 rfl rfl) (Gv.opn_slice (k := 1) Tryz.underlying28 (by kernel_rfl) (by omega) (Gv.opn_byte Tryz.underlying5)) k1 wt1
  obtain ⟨a2, I2, g2⟩ := Gv.arg_int Tryz.underlying3 (hval 2 3 v2 rfl rfl) (Gv.opn_int Tryz.underlying3) (fun _ => rfl) k2 wt2
  obtain ⟨a3, I3, g3⟩ := Gv.arg_slice Tryz.underlying53 (hval 3 53 v3 rfl rfl) (Gv.opn_slice (k := 1) Tryz.underlying53 (by kernel_rfl) (by omega) (Gv.opn_int Tryz.underlying3)) k3 wt3
  clear hA0 hval0
  refine (Gv.law_calls Gv.xHead_ok W (Gv.worldGlob_le W) rfl (Gv.vr_cons g0 (Gv.vr_cons g1 (Gv.vr_cons g2 (Gv.vr_cons g3 Gv.vr_nil)))) ⟨a0, a1, a2, a3, rfl, rfl⟩).mono fun e W' ⟨he, bel0⟩ => ?_
  have bel := bel0.below
  subst he
  exact ⟨_, rfl, _, _, _, [], _, [], hW', trodAll_mk1 (shut_bool Tryz.underlying4 _), (trodAll_cons_mk (Below.trod laidOutExecHead (by kernel_rfl) (of_decide_eq_true (by kernel_rfl)) k0 bel lt0) (trodAll_cons_mk (Below.trod laidOutExecHead (by kernel_rfl) (of_decide_eq_true (by kernel_rfl)) k1 bel lt1) (trodAll_cons_mk (Below.trod laidOutExecHead (by kernel_rfl) (of_decide_eq_true (by kernel_rfl)) k2 bel lt2) (trodAll_cons_mk (Below.trod laidOutExecHead (by kernel_rfl) (of_decide_eq_true (by kernel_rfl)) k3 bel lt3) trodAll_mk0)))), rfl, bel.frame _, fun h => by cases h⟩

theorem and_t {a b : Bool} (h : a = true) (k : b = true) : (a && b) = true := by rw [h, k]; rfl
theorem fact0ExecHead : (Rows.execHeadRow.wf (OpenSpec.ofChange Rows.execHeadSpec)) = true := by kernel_rfl
theorem fact1ExecHead : (laidOutB Tryz.prog) = true := by kernel_rfl
theorem fact2ExecHead : (mapsRowed Tryz.prog) = true := by kernel_rfl
theorem fact3ExecHead : (Tryz.f4.params.all (Tryz.prog.readableRec ·)) = true := by kernel_rfl
theorem fact4ExecHead : (namedTie Tryz.prog Rows.execHeadRow.named Rows.execHeadSpec.vars) = true := by kernel_rfl
theorem fact5ExecHead : ((Rows.execHeadRow.stops == [])) = true := by kernel_rfl
theorem fact6ExecHead : ((Tryz.prog.stops == [])) = true := by kernel_rfl
theorem fact7ExecHead : ((Rows.execHeadRow.knobs == [])) = true := by kernel_rfl
theorem fact8ExecHead : ((Tryz.prog.stopKnobs == [])) = true := by kernel_rfl
theorem fact9ExecHead : ((Rows.execHeadRow.inPlace == Tryz.prog.inPlace 4)) = true := by kernel_rfl
theorem fact10ExecHead : ((Rows.execHeadRow.unfollowed == Tryz.prog.unfollowed 4)) = true := by kernel_rfl
theorem fact11ExecHead : ((Rows.execHeadRow.recurses == Tryz.prog.recurses 4)) = true := by kernel_rfl
theorem fact12ExecHead : ((Rows.execHeadRow.named == Tryz.prog.varsNamed 4)) = true := by kernel_rfl
theorem fact13ExecHead : ((Rows.execHeadRow.maps == (Tryz.f4.params.toList ++ Rows.execHeadSpec.plain.varTypes Tryz.prog).any (Tryz.prog.mapsRec ·))) = true := by kernel_rfl
theorem fact14ExecHead : ((Rows.execHeadRow.ifaces == (Tryz.f4.params.toList ++ Rows.execHeadSpec.plain.varTypes Tryz.prog).any (Tryz.prog.ifacesRec ·))) = true := by kernel_rfl
theorem fact15ExecHead : ((Rows.execHeadRow.mapsOut == Tryz.prog.mapsAmong Tryz.f4.resultTypes.toList)) = true := by kernel_rfl
theorem fact16ExecHead : ((Rows.execHeadRow.loops == (Tryz.f4.params.toList ++ Rows.execHeadSpec.plain.varTypes Tryz.prog).any (Tryz.prog.loopsFrom ·))) = true := by kernel_rfl
theorem fact17ExecHead : ((Rows.execHeadRow.wideKeys == (Tryz.f4.params.toList ++ Rows.execHeadSpec.plain.varTypes Tryz.prog ++ Tryz.f4.resultTypes.toList).any (Tryz.prog.wideKeysFrom ·))) = true := by kernel_rfl
theorem fact18ExecHead : (Rows.execHeadSpec.vars.all (Tryz.prog.varReadable ·)) = true := by kernel_rfl
theorem fact19ExecHead : (Tryz.f4.resultTypes.all (fun t => Tryz.prog.readableRec t && decide (t < Tryz.prog.types.size))) = true := by kernel_rfl
theorem fact20ExecHead : ((Rows.execHeadRow.ifacesOut == Tryz.f4.resultTypes.toList.any (Tryz.prog.ifacesRec ·))) = true := by kernel_rfl
theorem fact21ExecHead : ((Rows.execHeadRow.loopsOut == Tryz.f4.resultTypes.toList.any (Tryz.prog.loopsFrom ·))) = true := by kernel_rfl
theorem fact22ExecHead : ((Rows.execHeadRow.plainKeys == Tryz.prog.plainKeys)) = true := by kernel_rfl
theorem fact23ExecHead : (Rows.execHeadRow.shortTexts.isNone) = true := by kernel_rfl
theorem fact24ExecHead : (Tryz.prog.stopsHeard) = true := by kernel_rfl
theorem fact25ExecHead : (Tryz.prog.mayEnter) = true := by kernel_rfl
theorem fact26ExecHead : ((Rows.execHeadRow.lifted == Tryz.prog.liftsFinal)) = true := by kernel_rfl
theorem fact27ExecHead : ((Tryz.prog.make == some Rows.execHeadRow.make)) = true := by kernel_rfl
theorem fact28ExecHead : ((Rows.execHeadRow.kinds == (if Rows.execHeadRow.domain.isEmpty then [] else Tryz.f4.params.toList.map fun t => match Tryz.prog.underlying t with | some (.int k) => some k | _ => none))) = true := by kernel_rfl
theorem fact29ExecHead : ((Rows.execHeadRow.pinned == Rows.execHeadRow.pinnedBy)) = true := by kernel_rfl
theorem fact30ExecHead : ((Rows.execHeadRow.veiled == (Tryz.f4.params.toList ++ Rows.execHeadSpec.plain.varTypes Tryz.prog ++ Tryz.f4.resultTypes.toList).any (Tryz.prog.veiledRec ·))) = true := by kernel_rfl
theorem fact31ExecHead : (Rows.execHeadRow.veiledFits Tryz.prog Tryz.f4.params.toList (Tryz.f4.params.toList ++ Rows.execHeadSpec.plain.varTypes Tryz.prog ++ Tryz.f4.resultTypes.toList)) = true := by kernel_rfl
set_option maxRecDepth 100000 in
theorem closedExecHead : joinedFacts Tryz.prog 4 Tryz.f4 Rows.execHeadSpec Rows.execHeadRow = true := by
  unfold joinedFacts
  exact (and_t (and_t (and_t (and_t (and_t (and_t (and_t (and_t (and_t (and_t (and_t (and_t (and_t (and_t (and_t (and_t (and_t (and_t (and_t (and_t (and_t (and_t (and_t (and_t (and_t (and_t (and_t (and_t (and_t (and_t (and_t fact0ExecHead fact1ExecHead) fact2ExecHead) fact3ExecHead) fact4ExecHead) fact5ExecHead) fact6ExecHead) fact7ExecHead) fact8ExecHead) fact9ExecHead) fact10ExecHead) fact11ExecHead) fact12ExecHead) fact13ExecHead) fact14ExecHead) fact15ExecHead) fact16ExecHead) fact17ExecHead) fact18ExecHead) fact19ExecHead) fact20ExecHead) fact21ExecHead) fact22ExecHead) fact23ExecHead) fact24ExecHead) fact25ExecHead) fact26ExecHead) fact27ExecHead) fact28ExecHead) fact29ExecHead) fact30ExecHead) fact31ExecHead)
theorem fNamedExecHead : Tryz.prog.funcNamed "gangsaw/gangsawlaw.ExecHead" = some 4 := by kernel_rfl
theorem instExecHead : Tryz.f4.isInstance Tryz.prog Rows.execHeadRow.origin Rows.execHeadRow.targs := of_decide_eq_true (by kernel_rfl)
theorem wrapExecHead : Tryz.f4.isWrapper Tryz.prog Rows.execHeadRow.wrapper Rows.execHeadRow.mainSum := by unfold Func.isWrapper; first | (rw [if_pos (by decide +kernel)]; kernel_rfl) | (rw [if_neg (by decide +kernel)]; exact ⟨rfl, rfl⟩)
theorem overExecHead : Rows.execHeadRow.holds Tryz.pinned (OpenSpec.ofChange Rows.execHeadSpec) :=
  OpenClaim.holds_of_wide 4 Tryz.f4 rfl rfl rfl rfl rfl rfl rfl ⟨rfl, rfl, rfl, rfl, rfl⟩ rfl rfl rfl rfl rfl fNamedExecHead Tryz.func4 closedExecHead instExecHead wrapExecHead
    (fun os started H enc _ => liftedExecHead os started H enc)

theorem byTextExecHead : Rows.execHeadRow.wfByText (OpenSpec.ofChange Rows.execHeadSpec) = true := by kernel_rfl
theorem mainExecHead : Tryz.prog.mainIs = some (((true, "9ab1331a6b96b3c3520091a15f421155077d78ec8e12f48cbefae1dfb71190e2") : Bool × String).1, ((true, "9ab1331a6b96b3c3520091a15f421155077d78ec8e12f48cbefae1dfb71190e2") : Bool × String).2.toList) := by kernel_rfl
theorem looksExecHead : true = Tryz.prog.looks [] := by kernel_rfl
theorem standExecHead : ([3, 28, 3, 53].all fun u => !Tryz.prog.wantsStandIn u) = true := by kernel_rfl
theorem goesExecHead : false = Rows.execHeadRow.goesBy Tryz.prog := by kernel_rfl
theorem provedExecHead : Rows.ExecHeadCardSaid :=
  Claim7.holds_tied_plain_at .later [] [.data, .data, .data, .data, .sentinel, .sentinel, .pinned] true (true, "9ab1331a6b96b3c3520091a15f421155077d78ec8e12f48cbefae1dfb71190e2") true
    overExecHead (fun _ h => by cases h) byTextExecHead (fun _ h => by cases h) execHead_row_tie rfl ⟨rfl, rfl⟩ mainExecHead rfl
    (fun f fn hf hfn => by
      obtain rfl : f = 4 := Option.some.inj (fNamedExecHead.symm.trans hf) |>.symm
      obtain rfl : fn = Tryz.f4 := (Option.some.inj (Tryz.func4.symm.trans hfn)).symm
      exact ⟨looksExecHead, fun j t ht => by
        rw [Tryz.params4] at ht
        have hm : t ∈ [3, 28, 3, 53] := by simpa using Array.mem_of_getElem? ht
        exact (show Tryz.prog.wantsStandIn t = false by simpa using List.all_eq_true.1 standExecHead t hm)⟩)
    goesExecHead

end Go.Proofs.YtffljdmmambdjacGreatDoor

