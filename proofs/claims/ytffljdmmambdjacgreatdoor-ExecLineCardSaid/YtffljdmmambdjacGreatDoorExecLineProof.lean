/- ExecLine, as it is given: for every input the law returns true, and each argument reads as it did; the row's condition is what the card ties: the listed variables hold what the program's text lays. -/
import Derived.Test.YtffljdmmambdjacGreatDoorF3
import Derived.Test.YtffljdmmambdjacGreatDoorCards
import Derived.Test.YtffljdmmambdjacGreatDoorTie
import Derived.ProofKit
import Derived.OpenShut
import Derived.ChangeOld
import Derived.Below
import Derived.SizedLaws
import Derived.LaidMore
import Derived.Lay
import Derived.SevenTiedAt
import Derived.Stop.LaidErr
import Derived.LaidLaws
set_option linter.unusedVariables false
set_option linter.unusedSimpArgs false
namespace Go.Proofs.YtffljdmmambdjacGreatDoor
open Go.Proofs Go.RowKit
open Go.ChangeShapes Go.WideShapes Go.ChangeAt

theorem pow10ExecLine : Rows.laid_internal_strconv_uint64pow10 (H := Unit) = Lib.tabData .u64 Lib.pow10Tab := by kernel_rfl
theorem starExecLine : "*" ++ "errors.errorString" = "*errors.errorString" := by decide
theorem rowErrExecLine (u : TypeId) (h : Tryz.prog.typeName? 3 u = some "*errors.errorString") : u = 323 :=
  typeName_ptr_named (nm := "errors.errorString") (by rw [starExecLine]; kernel_rfl) (by kernel_rfl) (by decide) u (by rw [starExecLine]; exact h)
theorem gErrSyntaxExecLine : Tryz.prog.globalNamed "strconv.ErrSyntax" = some 4 := by kernel_rfl
theorem tErrSyntaxExecLine : (Tryz.prog.globals[4]?).map (·.type) = some 237 := by kernel_rfl
theorem laidErrSyntaxExecLine {W : World} (h : laidMet Tryz.prog Rows.execLineRow.laid W) : ∃ tp p, W.var? Tryz.prog "strconv.ErrSyntax" = some #[.iface tp p] := by
  obtain ⟨a, s, hv, -, -, -⟩ := laid_sentinel (h.tail.tail.tail.tail.tail) gErrSyntaxExecLine tErrSyntaxExecLine Tryz.underlying237 rowErrExecLine Tryz.underlying323 Tryz.underlying325 rfl rfl Tryz.underlying9 (show Tryz.prog.cellsOf 325 = 1 by kernel_rfl) (show Tryz.prog.cellsOf 9 = 1 by kernel_rfl)
  exact ⟨_, _, hv⟩
theorem gErrRangeExecLine : Tryz.prog.globalNamed "strconv.ErrRange" = some 5 := by kernel_rfl
theorem tErrRangeExecLine : (Tryz.prog.globals[5]?).map (·.type) = some 237 := by kernel_rfl
theorem laidErrRangeExecLine {W : World} (h : laidMet Tryz.prog Rows.execLineRow.laid W) : ∃ tp p, W.var? Tryz.prog "strconv.ErrRange" = some #[.iface tp p] := by
  obtain ⟨a, s, hv, -, -, -⟩ := laid_sentinel (h.tail.tail.tail.tail) gErrRangeExecLine tErrRangeExecLine Tryz.underlying237 rowErrExecLine Tryz.underlying323 Tryz.underlying325 rfl rfl Tryz.underlying9 (show Tryz.prog.cellsOf 325 = 1 by kernel_rfl) (show Tryz.prog.cellsOf 9 = 1 by kernel_rfl)
  exact ⟨_, _, hv⟩
theorem ownExecLine : ownKnob Tryz.prog.godebug = none := by kernel_rfl
theorem laidOutExecLine : laidOutB Tryz.prog = true := by kernel_rfl
set_option maxRecDepth 100000 in
theorem liftedExecLine (os : Os) (started : os.Started) (H : Type) (enc : TypeId × Value → H) :
    ReturnsInHanded {} Tryz.checked os 3 .any (fun w args => (Rows.execLineSpec.pre enc Tryz.prog Tryz.f3 Rows.execLineRow.domain false w args ∧ laidMetH Tryz.prog Rows.execLineRow.laid w) ∧ sizedMet enc Tryz.prog Tryz.f3 (OpenSpec.ofChange Rows.execLineSpec) false w args) (Rows.execLineSpec.post enc Tryz.prog Tryz.f3 false true false false) := by
  refine Gv.returns_both (C := Tryz.checked) (X := fun w _ => laidMetH Tryz.prog Rows.execLineRow.laid w) (fun _ _ _ hh h => h.of_heap hh) ownExecLine started (by kernel_rfl) Tryz.func3
    (ChangeSpec.witness_shaped (enc := enc) (C := Tryz.checked) (os := os) (X := fun w _ => laidMetH Tryz.prog Rows.execLineRow.laid w) false (World.laidAll Tryz.prog os Rows.execLineRow.laid) #[(.agg #[(.slice none 0 0), (.slice none 0 0), (.slice none 0 0), (.slice none 0 0), (.slice none 0 0)]), (.int .i64 0)] 8 (World.laidAll_os _ _ _)
      (World.shaped_of_ZipB (by kernel_rfl) (by kernel_rfl)) (by kernel_rfl) (by kernel_rfl) (by kernel_rfl)
      (by rw [MakeChecks.laidMetH_plain _ _ _ (by kernel_rfl)]; exact laidMet_laidAll _ (by kernel_rfl) (by kernel_rfl))) ?_
  intro W base args ds gs before hval0 hW hsz0 hL hsh
  have hval : ∀ (j : Nat) t v, Tryz.f3.params[j]? = some t → args[j]? = some v → Value.okWide Tryz.prog W .any base t v := hval0
  have hsz : (DataW.weightsEach Tryz.prog (Tryz.f3.params.toList ++ []) (ds ++ gs)).all (· ≤ reachBytes) = true := hsz0
  clear hsz0
  rw [MakeChecks.laidMetH_plain _ _ _ (by kernel_rfl)] at hL
  letI : Gv.Glob := Gv.worldGlob W
  haveI : Gv.Laid := ⟨Gv.all_int (P := Tryz.prog) hsh (g := 0) (t := 3) (zero := #[.int .i64 0]) (of_decide_eq_true (by kernel_rfl)) (by kernel_rfl) rfl (by kernel_rfl) (by kernel_rfl) Tryz.underlying3⟩
  have hP : laidMet Tryz.prog (("internal/strconv.uint64pow10", Lib.tabData .u64 Lib.pow10Tab) :: Rows.execLineRow.laid.drop 3) W := by
    rw [← pow10ExecLine]
    exact hL.tail.tail
  haveI : Gv.Nums := ⟨Gv.all_tab (Lib.tabIs_of_head (g := 3) (t := 312) (by kernel_rfl) (by kernel_rfl) Tryz.underlying312 Tryz.underlying225 (by kernel_rfl) (by kernel_rfl) hP)⟩
  haveI : Gv.Errs := ⟨fun w hw => let ⟨tp, p, e⟩ := laidErrSyntaxExecLine hL; ⟨tp, p, Gv.all_var hw e⟩, fun w hw => let ⟨tp, p, e⟩ := laidErrRangeExecLine hL; ⟨tp, p, Gv.all_var hw e⟩⟩
  have hW' := hW
  obtain ⟨p, q, hA0, hV, rfl, hfz, hnd⟩ := hW
  have hA : DataW.TrodAll enc Tryz.prog W 0 (fun _ => true) true Tryz.f3.params.toList args.toList ds p := hA0
  rw [Tryz.params3] at hA hval hsz
  obtain ⟨v0, vs0, d0, ds0, p0, q0, hargs, rfl, rfl, k0, r0⟩ := trodAll_cons hA
  obtain ⟨v1, vs1, d1, ds1, p1, q1, rfl, rfl, rfl, k1, r1⟩ := trodAll_cons r0
  obtain ⟨rfl, rfl, rfl⟩ := trodAll_nil r1
  obtain rfl : args = #[v0, v1] := by cases args; simp_all
  obtain ⟨rfl, rfl⟩ := trodVars_none hV
  have lt0 : ∀ x ∈ p0, x.block < W.heap.size := by obtain ⟨m, hm⟩ := k0; exact DataW.trod_lt m _ _ _ hm
  have lt1 : ∀ x ∈ p1, x.block < W.heap.size := by obtain ⟨m, hm⟩ := k1; exact DataW.trod_lt m _ _ _ hm
  have wt0 : ∀ n ∈ d0.weights Tryz.prog 30, n ≤ reachBytes := fun n hn => by simpa using List.all_eq_true.1 hsz n (DataW.weights_mem_each (j := 0) rfl rfl n hn)
  have wt1 : ∀ n ∈ d1.weights Tryz.prog 3, n ≤ reachBytes := fun n hn => by simpa using List.all_eq_true.1 hsz n (DataW.weights_mem_each (j := 1) rfl rfl n hn)
  obtain ⟨a0, I0, g0⟩ := Gv.arg_struct Tryz.underlying30 (hval 0 30 v0 rfl rfl) Gv.opn_mach k0 wt0
  obtain ⟨a1, I1, g1⟩ := Gv.arg_int Tryz.underlying3 (hval 1 3 v1 rfl rfl) (Gv.opn_int Tryz.underlying3) (fun _ => rfl) k1 wt1
  clear hA0 hval0
  refine (Gv.law_calls Gv.xLineT_ok W (Gv.worldGlob_le W) rfl (Gv.vr_cons g0 (Gv.vr_cons g1 Gv.vr_nil)) ⟨a0, a1, rfl, rfl⟩).mono fun e W' ⟨he, bel0⟩ => ?_
  have bel := bel0.below
  subst he
  exact ⟨_, rfl, _, _, _, [], _, [], hW', trodAll_mk1 (shut_bool Tryz.underlying4 _), (trodAll_cons_mk (Below.trod laidOutExecLine (by kernel_rfl) (of_decide_eq_true (by kernel_rfl)) k0 bel lt0) (trodAll_cons_mk (Below.trod laidOutExecLine (by kernel_rfl) (of_decide_eq_true (by kernel_rfl)) k1 bel lt1) trodAll_mk0)), rfl, bel.frame _, fun h => by cases h⟩

theorem and_t {a b : Bool} (h : a = true) (k : b = true) : (a && b) = true := by rw [h, k]; rfl
theorem fact0ExecLine : (Rows.execLineRow.wf (OpenSpec.ofChange Rows.execLineSpec)) = true := by kernel_rfl
theorem fact1ExecLine : (laidOutB Tryz.prog) = true := by kernel_rfl
theorem fact2ExecLine : (mapsRowed Tryz.prog) = true := by kernel_rfl
theorem fact3ExecLine : (Tryz.f3.params.all (Tryz.prog.readableRec ·)) = true := by kernel_rfl
theorem fact4ExecLine : (namedTie Tryz.prog Rows.execLineRow.named Rows.execLineSpec.vars) = true := by kernel_rfl
theorem fact5ExecLine : ((Rows.execLineRow.stops == [])) = true := by kernel_rfl
theorem fact6ExecLine : ((Tryz.prog.stops == [])) = true := by kernel_rfl
theorem fact7ExecLine : ((Rows.execLineRow.knobs == [])) = true := by kernel_rfl
theorem fact8ExecLine : ((Tryz.prog.stopKnobs == [])) = true := by kernel_rfl
theorem fact9ExecLine : ((Rows.execLineRow.inPlace == Tryz.prog.inPlace 3)) = true := by kernel_rfl
theorem fact10ExecLine : ((Rows.execLineRow.unfollowed == Tryz.prog.unfollowed 3)) = true := by kernel_rfl
theorem fact11ExecLine : ((Rows.execLineRow.recurses == Tryz.prog.recurses 3)) = true := by kernel_rfl
theorem fact12ExecLine : ((Rows.execLineRow.named == Tryz.prog.varsNamed 3)) = true := by kernel_rfl
theorem fact13ExecLine : ((Rows.execLineRow.maps == (Tryz.f3.params.toList ++ Rows.execLineSpec.plain.varTypes Tryz.prog).any (Tryz.prog.mapsRec ·))) = true := by kernel_rfl
theorem fact14ExecLine : ((Rows.execLineRow.ifaces == (Tryz.f3.params.toList ++ Rows.execLineSpec.plain.varTypes Tryz.prog).any (Tryz.prog.ifacesRec ·))) = true := by kernel_rfl
theorem fact15ExecLine : ((Rows.execLineRow.mapsOut == Tryz.prog.mapsAmong Tryz.f3.resultTypes.toList)) = true := by kernel_rfl
theorem fact16ExecLine : ((Rows.execLineRow.loops == (Tryz.f3.params.toList ++ Rows.execLineSpec.plain.varTypes Tryz.prog).any (Tryz.prog.loopsFrom ·))) = true := by kernel_rfl
theorem fact17ExecLine : ((Rows.execLineRow.wideKeys == (Tryz.f3.params.toList ++ Rows.execLineSpec.plain.varTypes Tryz.prog ++ Tryz.f3.resultTypes.toList).any (Tryz.prog.wideKeysFrom ·))) = true := by kernel_rfl
theorem fact18ExecLine : (Rows.execLineSpec.vars.all (Tryz.prog.varReadable ·)) = true := by kernel_rfl
theorem fact19ExecLine : (Tryz.f3.resultTypes.all (fun t => Tryz.prog.readableRec t && decide (t < Tryz.prog.types.size))) = true := by kernel_rfl
theorem fact20ExecLine : ((Rows.execLineRow.ifacesOut == Tryz.f3.resultTypes.toList.any (Tryz.prog.ifacesRec ·))) = true := by kernel_rfl
theorem fact21ExecLine : ((Rows.execLineRow.loopsOut == Tryz.f3.resultTypes.toList.any (Tryz.prog.loopsFrom ·))) = true := by kernel_rfl
theorem fact22ExecLine : ((Rows.execLineRow.plainKeys == Tryz.prog.plainKeys)) = true := by kernel_rfl
theorem fact23ExecLine : (Rows.execLineRow.shortTexts.isNone) = true := by kernel_rfl
theorem fact24ExecLine : (Tryz.prog.stopsHeard) = true := by kernel_rfl
theorem fact25ExecLine : (Tryz.prog.mayEnter) = true := by kernel_rfl
theorem fact26ExecLine : ((Rows.execLineRow.lifted == Tryz.prog.liftsFinal)) = true := by kernel_rfl
theorem fact27ExecLine : ((Tryz.prog.make == some Rows.execLineRow.make)) = true := by kernel_rfl
theorem fact28ExecLine : ((Rows.execLineRow.kinds == (if Rows.execLineRow.domain.isEmpty then [] else Tryz.f3.params.toList.map fun t => match Tryz.prog.underlying t with | some (.int k) => some k | _ => none))) = true := by kernel_rfl
theorem fact29ExecLine : ((Rows.execLineRow.pinned == Rows.execLineRow.pinnedBy)) = true := by kernel_rfl
theorem fact30ExecLine : ((Rows.execLineRow.veiled == (Tryz.f3.params.toList ++ Rows.execLineSpec.plain.varTypes Tryz.prog ++ Tryz.f3.resultTypes.toList).any (Tryz.prog.veiledRec ·))) = true := by kernel_rfl
theorem fact31ExecLine : (Rows.execLineRow.veiledFits Tryz.prog Tryz.f3.params.toList (Tryz.f3.params.toList ++ Rows.execLineSpec.plain.varTypes Tryz.prog ++ Tryz.f3.resultTypes.toList)) = true := by kernel_rfl
set_option maxRecDepth 100000 in
theorem closedExecLine : joinedFacts Tryz.prog 3 Tryz.f3 Rows.execLineSpec Rows.execLineRow = true := by
  unfold joinedFacts
  exact (and_t (and_t (and_t (and_t (and_t (and_t (and_t (and_t (and_t (and_t (and_t (and_t (and_t (and_t (and_t (and_t (and_t (and_t (and_t (and_t (and_t (and_t (and_t (and_t (and_t (and_t (and_t (and_t (and_t (and_t (and_t fact0ExecLine fact1ExecLine) fact2ExecLine) fact3ExecLine) fact4ExecLine) fact5ExecLine) fact6ExecLine) fact7ExecLine) fact8ExecLine) fact9ExecLine) fact10ExecLine) fact11ExecLine) fact12ExecLine) fact13ExecLine) fact14ExecLine) fact15ExecLine) fact16ExecLine) fact17ExecLine) fact18ExecLine) fact19ExecLine) fact20ExecLine) fact21ExecLine) fact22ExecLine) fact23ExecLine) fact24ExecLine) fact25ExecLine) fact26ExecLine) fact27ExecLine) fact28ExecLine) fact29ExecLine) fact30ExecLine) fact31ExecLine)
theorem fNamedExecLine : Tryz.prog.funcNamed "gangsaw/gangsawlaw.ExecLine" = some 3 := by kernel_rfl
theorem instExecLine : Tryz.f3.isInstance Tryz.prog Rows.execLineRow.origin Rows.execLineRow.targs := of_decide_eq_true (by kernel_rfl)
theorem wrapExecLine : Tryz.f3.isWrapper Tryz.prog Rows.execLineRow.wrapper Rows.execLineRow.mainSum := by unfold Func.isWrapper; first | (rw [if_pos (by decide +kernel)]; kernel_rfl) | (rw [if_neg (by decide +kernel)]; exact ⟨rfl, rfl⟩)
theorem overExecLine : Rows.execLineRow.holds Tryz.pinned (OpenSpec.ofChange Rows.execLineSpec) :=
  OpenClaim.holds_of_wide 3 Tryz.f3 rfl rfl rfl rfl rfl rfl rfl ⟨rfl, rfl, rfl, rfl, rfl⟩ rfl rfl rfl rfl rfl fNamedExecLine Tryz.func3 closedExecLine instExecLine wrapExecLine
    (fun os started H enc _ => liftedExecLine os started H enc)

theorem byTextExecLine : Rows.execLineRow.wfByText (OpenSpec.ofChange Rows.execLineSpec) = true := by kernel_rfl
theorem mainExecLine : Tryz.prog.mainIs = some (((true, "9ab1331a6b96b3c3520091a15f421155077d78ec8e12f48cbefae1dfb71190e2") : Bool × String).1, ((true, "9ab1331a6b96b3c3520091a15f421155077d78ec8e12f48cbefae1dfb71190e2") : Bool × String).2.toList) := by kernel_rfl
theorem looksExecLine : true = Tryz.prog.looks [] := by kernel_rfl
theorem standExecLine : ([30, 3].all fun u => !Tryz.prog.wantsStandIn u) = true := by kernel_rfl
theorem goesExecLine : false = Rows.execLineRow.goesBy Tryz.prog := by kernel_rfl
theorem provedExecLine : Rows.ExecLineCardSaid :=
  Claim7.holds_tied_plain_at .later [] [.data, .data, .data, .data, .sentinel, .sentinel, .pinned] true (true, "9ab1331a6b96b3c3520091a15f421155077d78ec8e12f48cbefae1dfb71190e2") true
    overExecLine (fun _ h => by cases h) byTextExecLine (fun _ h => by cases h) execLine_row_tie rfl ⟨rfl, rfl⟩ mainExecLine rfl
    (fun f fn hf hfn => by
      obtain rfl : f = 3 := Option.some.inj (fNamedExecLine.symm.trans hf) |>.symm
      obtain rfl : fn = Tryz.f3 := (Option.some.inj (Tryz.func3.symm.trans hfn)).symm
      exact ⟨looksExecLine, fun j t ht => by
        rw [Tryz.params3] at ht
        have hm : t ∈ [30, 3] := by simpa using Array.mem_of_getElem? ht
        exact (show Tryz.prog.wantsStandIn t = false by simpa using List.all_eq_true.1 standExecLine t hm)⟩)
    goesExecLine

end Go.Proofs.YtffljdmmambdjacGreatDoor

