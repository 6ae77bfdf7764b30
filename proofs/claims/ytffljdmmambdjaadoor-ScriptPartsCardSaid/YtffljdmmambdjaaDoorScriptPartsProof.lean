/- ScriptParts, as it is given: for every input the law returns true, and each argument reads as it did; the row's condition is what the card ties: the listed variables hold what the program's text lays. -/
import Derived.Test.YtffljdmmambdjaaDoorF2
import Derived.Test.YtffljdmmambdjaaDoorCards
import Derived.Test.YtffljdmmambdjaaDoorTie
import Derived.ProofKit
import Derived.OpenShut
import Derived.ChangeOld
import Derived.Below
import Derived.SizedLaws
import Derived.LaidMore
import Derived.Lay
import Derived.SevenTiedAt
import Derived.Stop.LaidErr
import Derived.LaidLaws
set_option linter.unusedVariables false
set_option linter.unusedSimpArgs false
namespace Go.Proofs.YtffljdmmambdjaaDoor
open Go.Proofs Go.RowKit
open Go.ChangeShapes Go.WideShapes Go.ChangeAt

theorem pow10ScriptParts : Rows.laid_internal_strconv_uint64pow10 (H := Unit) = Lib.tabData .u64 Lib.pow10Tab := by kernel_rfl
theorem starScriptParts : "*" ++ "errors.errorString" = "*errors.errorString" := by decide
theorem rowErrScriptParts (u : TypeId) (h : Tryd.prog.typeName? 3 u = some "*errors.errorString") : u = 221 :=
  typeName_ptr_named (nm := "errors.errorString") (by rw [starScriptParts]; kernel_rfl) (by kernel_rfl) (by decide) u (by rw [starScriptParts]; exact h)
theorem gErrSyntaxScriptParts : Tryd.prog.globalNamed "strconv.ErrSyntax" = some 2 := by kernel_rfl
theorem tErrSyntaxScriptParts : (Tryd.prog.globals[2]?).map (·.type) = some 104 := by kernel_rfl
theorem laidErrSyntaxScriptParts {W : World} (h : laidMet Tryd.prog Rows.scriptPartsRow.laid W) : ∃ tp p, W.var? Tryd.prog "strconv.ErrSyntax" = some #[.iface tp p] := by
  obtain ⟨a, s, hv, -, -, -⟩ := laid_sentinel (h.tail.tail.tail.tail.tail) gErrSyntaxScriptParts tErrSyntaxScriptParts Tryd.underlying104 rowErrScriptParts Tryd.underlying221 Tryd.underlying223 rfl rfl Tryd.underlying9 (show Tryd.prog.cellsOf 223 = 1 by kernel_rfl) (show Tryd.prog.cellsOf 9 = 1 by kernel_rfl)
  exact ⟨_, _, hv⟩
theorem gErrRangeScriptParts : Tryd.prog.globalNamed "strconv.ErrRange" = some 3 := by kernel_rfl
theorem tErrRangeScriptParts : (Tryd.prog.globals[3]?).map (·.type) = some 104 := by kernel_rfl
theorem laidErrRangeScriptParts {W : World} (h : laidMet Tryd.prog Rows.scriptPartsRow.laid W) : ∃ tp p, W.var? Tryd.prog "strconv.ErrRange" = some #[.iface tp p] := by
  obtain ⟨a, s, hv, -, -, -⟩ := laid_sentinel (h.tail.tail.tail.tail) gErrRangeScriptParts tErrRangeScriptParts Tryd.underlying104 rowErrScriptParts Tryd.underlying221 Tryd.underlying223 rfl rfl Tryd.underlying9 (show Tryd.prog.cellsOf 223 = 1 by kernel_rfl) (show Tryd.prog.cellsOf 9 = 1 by kernel_rfl)
  exact ⟨_, _, hv⟩
theorem ownScriptParts : ownKnob Tryd.prog.godebug = none := by kernel_rfl
theorem laidOutScriptParts : laidOutB Tryd.prog = true := by kernel_rfl
set_option maxRecDepth 100000 in
theorem liftedScriptParts (os : Os) (started : os.Started) (H : Type) (enc : TypeId × Value → H) :
    ReturnsInHanded {} Tryd.checked os 5 .any (fun w args => (Rows.scriptPartsSpec.pre enc Tryd.prog Tryd.f5 Rows.scriptPartsRow.domain false w args ∧ laidMetH Tryd.prog Rows.scriptPartsRow.laid w) ∧ sizedMet enc Tryd.prog Tryd.f5 (OpenSpec.ofChange Rows.scriptPartsSpec) false w args) (Rows.scriptPartsSpec.post enc Tryd.prog Tryd.f5 false true false false) := by
  refine Gv.returns_both (C := Tryd.checked) (X := fun w _ => laidMetH Tryd.prog Rows.scriptPartsRow.laid w) (fun _ _ _ hh h => h.of_heap hh) ownScriptParts started (by kernel_rfl) Tryd.func5
    (ChangeSpec.witness_shaped (enc := enc) (C := Tryd.checked) (os := os) (X := fun w _ => laidMetH Tryd.prog Rows.scriptPartsRow.laid w) false (World.laidAll Tryd.prog os Rows.scriptPartsRow.laid) #[(.slice none 0 0), (.int .i64 0)] 8 (World.laidAll_os _ _ _)
      (World.shaped_of_ZipB (by kernel_rfl) (by kernel_rfl)) (by kernel_rfl) (by kernel_rfl) (by kernel_rfl)
      (by rw [MakeChecks.laidMetH_plain _ _ _ (by kernel_rfl)]; exact laidMet_laidAll _ (by kernel_rfl) (by kernel_rfl))) ?_
  intro W base args ds gs before hval0 hW hsz0 hL hsh
  have hval : ∀ (j : Nat) t v, Tryd.f5.params[j]? = some t → args[j]? = some v → Value.okWide Tryd.prog W .any base t v := hval0
  have hsz : (DataW.weightsEach Tryd.prog (Tryd.f5.params.toList ++ []) (ds ++ gs)).all (· ≤ reachBytes) = true := hsz0
  clear hsz0
  rw [MakeChecks.laidMetH_plain _ _ _ (by kernel_rfl)] at hL
  letI : Gv.Glob := Gv.worldGlob W
  haveI : Gv.Laid := ⟨Gv.all_int (P := Tryd.prog) hsh (g := 0) (t := 3) (zero := #[.int .i64 0]) (of_decide_eq_true (by kernel_rfl)) (by kernel_rfl) rfl (by kernel_rfl) (by kernel_rfl) Tryd.underlying3⟩
  have hP : laidMet Tryd.prog (("internal/strconv.uint64pow10", Lib.tabData .u64 Lib.pow10Tab) :: Rows.scriptPartsRow.laid.drop 3) W := by
    rw [← pow10ScriptParts]
    exact hL.tail.tail
  haveI : Gv.Nums := ⟨Gv.all_tab (Lib.tabIs_of_head (g := 1) (t := 205) (by kernel_rfl) (by kernel_rfl) Tryd.underlying205 Tryd.underlying153 (by kernel_rfl) (by kernel_rfl) hP)⟩
  haveI : Gv.Errs := ⟨fun w hw => let ⟨tp, p, e⟩ := laidErrSyntaxScriptParts hL; ⟨tp, p, Gv.all_var hw e⟩, fun w hw => let ⟨tp, p, e⟩ := laidErrRangeScriptParts hL; ⟨tp, p, Gv.all_var hw e⟩⟩
  have hW' := hW
  obtain ⟨p, q, hA0, hV, rfl, hfz, hnd⟩ := hW
  have hA : DataW.TrodAll enc Tryd.prog W 0 (fun _ => true) true Tryd.f5.params.toList args.toList ds p := hA0
  rw [Tryd.params5] at hA hval hsz
  obtain ⟨v0, vs0, d0, ds0, p0, q0, hargs, rfl, rfl, k0, r0⟩ := trodAll_cons hA
  obtain ⟨v1, vs1, d1, ds1, p1, q1, rfl, rfl, rfl, k1, r1⟩ := trodAll_cons r0
  obtain ⟨rfl, rfl, rfl⟩ := trodAll_nil r1
  obtain rfl : args = #[v0, v1] := by cases args; simp_all
  obtain ⟨rfl, rfl⟩ := trodVars_none hV
  have lt0 : ∀ x ∈ p0, x.block < W.heap.size := by obtain ⟨m, hm⟩ := k0; exact DataW.trod_lt m _ _ _ hm
  have lt1 : ∀ x ∈ p1, x.block < W.heap.size := by obtain ⟨m, hm⟩ := k1; exact DataW.trod_lt m _ _ _ hm
  have wt0 : ∀ n ∈ d0.weights Tryd.prog 53, n ≤ reachBytes := fun n hn => by simpa using List.all_eq_true.1 hsz n (DataW.weights_mem_each (j := 0) rfl rfl n hn)
  have wt1 : ∀ n ∈ d1.weights Tryd.prog 3, n ≤ reachBytes := fun n hn => by simpa using List.all_eq_true.1 hsz n (DataW.weights_mem_each (j := 1) rfl rfl n hn)
  obtain ⟨a0, I0, g0⟩ := Gv.arg_slice Tryd.underlying53 (hval 0 53 v0 rfl rfl) (Gv.opn_slice (k := 3) Tryd.underlying53 (by kernel_rfl) (by omega) Gv.opn_line) k0 wt0
  obtain ⟨a1, I1, g1⟩ := Gv.arg_int Tryd.underlying3 (hval 1 3 v1 rfl rfl) (Gv.opn_int Tryd.underlying3) (fun _ => rfl) k1 wt1
  clear hA0 hval0
  refine (Gv.law_calls Gv.scPartsT_ok W (Gv.worldGlob_le W) rfl (Gv.vr_cons g0 (Gv.vr_cons g1 Gv.vr_nil)) ⟨a0, a1, rfl, I1, rfl⟩).mono fun e W' ⟨he, bel0⟩ => ?_
  have bel := bel0.below
  subst he
  exact ⟨_, rfl, _, _, _, [], _, [], hW', trodAll_mk1 (shut_bool Tryd.underlying4 _), (trodAll_cons_mk (Below.trod laidOutScriptParts (by kernel_rfl) (of_decide_eq_true (by kernel_rfl)) k0 bel lt0) (trodAll_cons_mk (Below.trod laidOutScriptParts (by kernel_rfl) (of_decide_eq_true (by kernel_rfl)) k1 bel lt1) trodAll_mk0)), rfl, bel.frame _, fun h => by cases h⟩

theorem and_t {a b : Bool} (h : a = true) (k : b = true) : (a && b) = true := by rw [h, k]; rfl
theorem fact0ScriptParts : (Rows.scriptPartsRow.wf (OpenSpec.ofChange Rows.scriptPartsSpec)) = true := by kernel_rfl
theorem fact1ScriptParts : (laidOutB Tryd.prog) = true := by kernel_rfl
theorem fact2ScriptParts : (mapsRowed Tryd.prog) = true := by kernel_rfl
theorem fact3ScriptParts : (Tryd.f5.params.all (Tryd.prog.readableRec ·)) = true := by kernel_rfl
theorem fact4ScriptParts : (namedTie Tryd.prog Rows.scriptPartsRow.named Rows.scriptPartsSpec.vars) = true := by kernel_rfl
theorem fact5ScriptParts : ((Rows.scriptPartsRow.stops == [])) = true := by kernel_rfl
theorem fact6ScriptParts : ((Tryd.prog.stops == [])) = true := by kernel_rfl
theorem fact7ScriptParts : ((Rows.scriptPartsRow.knobs == [])) = true := by kernel_rfl
theorem fact8ScriptParts : ((Tryd.prog.stopKnobs == [])) = true := by kernel_rfl
theorem fact9ScriptParts : ((Rows.scriptPartsRow.inPlace == Tryd.prog.inPlace 5)) = true := by kernel_rfl
theorem fact10ScriptParts : ((Rows.scriptPartsRow.unfollowed == Tryd.prog.unfollowed 5)) = true := by kernel_rfl
theorem fact11ScriptParts : ((Rows.scriptPartsRow.recurses == Tryd.prog.recurses 5)) = true := by kernel_rfl
theorem fact12ScriptParts : ((Rows.scriptPartsRow.named == Tryd.prog.varsNamed 5)) = true := by kernel_rfl
theorem fact13ScriptParts : ((Rows.scriptPartsRow.maps == (Tryd.f5.params.toList ++ Rows.scriptPartsSpec.plain.varTypes Tryd.prog).any (Tryd.prog.mapsRec ·))) = true := by kernel_rfl
theorem fact14ScriptParts : ((Rows.scriptPartsRow.ifaces == (Tryd.f5.params.toList ++ Rows.scriptPartsSpec.plain.varTypes Tryd.prog).any (Tryd.prog.ifacesRec ·))) = true := by kernel_rfl
theorem fact15ScriptParts : ((Rows.scriptPartsRow.mapsOut == Tryd.prog.mapsAmong Tryd.f5.resultTypes.toList)) = true := by kernel_rfl
theorem fact16ScriptParts : ((Rows.scriptPartsRow.loops == (Tryd.f5.params.toList ++ Rows.scriptPartsSpec.plain.varTypes Tryd.prog).any (Tryd.prog.loopsFrom ·))) = true := by kernel_rfl
theorem fact17ScriptParts : ((Rows.scriptPartsRow.wideKeys == (Tryd.f5.params.toList ++ Rows.scriptPartsSpec.plain.varTypes Tryd.prog ++ Tryd.f5.resultTypes.toList).any (Tryd.prog.wideKeysFrom ·))) = true := by kernel_rfl
theorem fact18ScriptParts : (Rows.scriptPartsSpec.vars.all (Tryd.prog.varReadable ·)) = true := by kernel_rfl
theorem fact19ScriptParts : (Tryd.f5.resultTypes.all (fun t => Tryd.prog.readableRec t && decide (t < Tryd.prog.types.size))) = true := by kernel_rfl
theorem fact20ScriptParts : ((Rows.scriptPartsRow.ifacesOut == Tryd.f5.resultTypes.toList.any (Tryd.prog.ifacesRec ·))) = true := by kernel_rfl
theorem fact21ScriptParts : ((Rows.scriptPartsRow.loopsOut == Tryd.f5.resultTypes.toList.any (Tryd.prog.loopsFrom ·))) = true := by kernel_rfl
theorem fact22ScriptParts : ((Rows.scriptPartsRow.plainKeys == Tryd.prog.plainKeys)) = true := by kernel_rfl
theorem fact23ScriptParts : (Rows.scriptPartsRow.shortTexts.isNone) = true := by kernel_rfl
theorem fact24ScriptParts : (Tryd.prog.stopsHeard) = true := by kernel_rfl
theorem fact25ScriptParts : (Tryd.prog.mayEnter) = true := by kernel_rfl
theorem fact26ScriptParts : ((Rows.scriptPartsRow.lifted == Tryd.prog.liftsFinal)) = true := by kernel_rfl
theorem fact27ScriptParts : ((Tryd.prog.make == some Rows.scriptPartsRow.make)) = true := by kernel_rfl
theorem fact28ScriptParts : ((Rows.scriptPartsRow.kinds == (if Rows.scriptPartsRow.domain.isEmpty then [] else Tryd.f5.params.toList.map fun t => match Tryd.prog.underlying t with | some (.int k) => some k | _ => none))) = true := by kernel_rfl
theorem fact29ScriptParts : ((Rows.scriptPartsRow.pinned == Rows.scriptPartsRow.pinnedBy)) = true := by kernel_rfl
theorem fact30ScriptParts : ((Rows.scriptPartsRow.veiled == (Tryd.f5.params.toList ++ Rows.scriptPartsSpec.plain.varTypes Tryd.prog ++ Tryd.f5.resultTypes.toList).any (Tryd.prog.veiledRec ·))) = true := by kernel_rfl
theorem fact31ScriptParts : (Rows.scriptPartsRow.veiledFits Tryd.prog Tryd.f5.params.toList (Tryd.f5.params.toList ++ Rows.scriptPartsSpec.plain.varTypes Tryd.prog ++ Tryd.f5.resultTypes.toList)) = true := by kernel_rfl
set_option maxRecDepth 100000 in
theorem closedScriptParts : joinedFacts Tryd.prog 5 Tryd.f5 Rows.scriptPartsSpec Rows.scriptPartsRow = true := by
  unfold joinedFacts
  exact (and_t (and_t (and_t (and_t (and_t (and_t (and_t (and_t (and_t (and_t (and_t (and_t (and_t (and_t (and_t (and_t (and_t (and_t (and_t (and_t (and_t (and_t (and_t (and_t (and_t (and_t (and_t (and_t (and_t (and_t (and_t fact0ScriptParts fact1ScriptParts) fact2ScriptParts) fact3ScriptParts) fact4ScriptParts) fact5ScriptParts) fact6ScriptParts) fact7ScriptParts) fact8ScriptParts) fact9ScriptParts) fact10ScriptParts) fact11ScriptParts) fact12ScriptParts) fact13ScriptParts) fact14ScriptParts) fact15ScriptParts) fact16ScriptParts) fact17ScriptParts) fact18ScriptParts) fact19ScriptParts) fact20ScriptParts) fact21ScriptParts) fact22ScriptParts) fact23ScriptParts) fact24ScriptParts) fact25ScriptParts) fact26ScriptParts) fact27ScriptParts) fact28ScriptParts) fact29ScriptParts) fact30ScriptParts) fact31ScriptParts)
theorem fNamedScriptParts : Tryd.prog.funcNamed "gangsaw/gangsawlaw.ScriptParts" = some 5 := by kernel_rfl
theorem instScriptParts : Tryd.f5.isInstance Tryd.prog Rows.scriptPartsRow.origin Rows.scriptPartsRow.targs := of_decide_eq_true (by kernel_rfl)
theorem wrapScriptParts : Tryd.f5.isWrapper Tryd.prog Rows.scriptPartsRow.wrapper Rows.scriptPartsRow.mainSum := by unfold Func.isWrapper; first | (rw [if_pos (by decide +kernel)]; kernel_rfl) | (rw [if_neg (by decide +kernel)]; exact ⟨rfl, rfl⟩)
theorem overScriptParts : Rows.scriptPartsRow.holds Tryd.pinned (OpenSpec.ofChange Rows.scriptPartsSpec) :=
  OpenClaim.holds_of_wide 5 Tryd.f5 rfl rfl rfl rfl rfl rfl rfl ⟨rfl, rfl, rfl, rfl, rfl⟩ rfl rfl rfl rfl rfl fNamedScriptParts Tryd.func5 closedScriptParts instScriptParts wrapScriptParts
    (fun os started H enc _ => liftedScriptParts os started H enc)

theorem byTextScriptParts : Rows.scriptPartsRow.wfByText (OpenSpec.ofChange Rows.scriptPartsSpec) = true := by kernel_rfl
theorem mainScriptParts : Tryd.prog.mainIs = some (((true, "e2661f9fa138539de65c9de8d795f00442d421449050d11dade4e2e089fc6299") : Bool × String).1, ((true, "e2661f9fa138539de65c9de8d795f00442d421449050d11dade4e2e089fc6299") : Bool × String).2.toList) := by kernel_rfl
theorem looksScriptParts : true = Tryd.prog.looks [] := by kernel_rfl
theorem standScriptParts : ([53, 3].all fun u => !Tryd.prog.wantsStandIn u) = true := by kernel_rfl
theorem goesScriptParts : false = Rows.scriptPartsRow.goesBy Tryd.prog := by kernel_rfl
theorem provedScriptParts : Rows.ScriptPartsCardSaid :=
  Claim7.holds_tied_plain_at .later [] [.data, .data, .data, .data, .sentinel, .sentinel, .pinned] true (true, "e2661f9fa138539de65c9de8d795f00442d421449050d11dade4e2e089fc6299") true
    overScriptParts (fun _ h => by cases h) byTextScriptParts (fun _ h => by cases h) scriptParts_row_tie rfl ⟨rfl, rfl⟩ mainScriptParts rfl
    (fun f fn hf hfn => by
      obtain rfl : f = 5 := Option.some.inj (fNamedScriptParts.symm.trans hf) |>.symm
      obtain rfl : fn = Tryd.f5 := (Option.some.inj (Tryd.func5.symm.trans hfn)).symm
      exact ⟨looksScriptParts, fun j t ht => by
        rw [Tryd.params5] at ht
        have hm : t ∈ [53, 3] := by simpa using Array.mem_of_getElem? ht
        exact (show Tryd.prog.wantsStandIn t = false by simpa using List.all_eq_true.1 standScriptParts t hm)⟩)
    goesScriptParts

end Go.Proofs.YtffljdmmambdjaaDoor

