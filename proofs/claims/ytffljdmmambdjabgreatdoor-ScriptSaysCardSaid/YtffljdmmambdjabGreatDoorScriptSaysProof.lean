/- ScriptSays, as it is given: for every input the law returns true, and each argument reads as it did; the row's condition is what the card ties: the listed variables hold what the program's text lays. -/
import Derived.Test.YtffljdmmambdjabGreatDoorF1
import Derived.Test.YtffljdmmambdjabGreatDoorCards
import Derived.Test.YtffljdmmambdjabGreatDoorTie
import Derived.ProofKit
import Derived.OpenShut
import Derived.ChangeOld
import Derived.Below
import Derived.SizedLaws
import Derived.LaidMore
import Derived.Lay
import Derived.SevenTiedAt
import Derived.Stop.LaidErr
import Derived.LaidLaws
set_option linter.unusedVariables false
set_option linter.unusedSimpArgs false
namespace Go.Proofs.YtffljdmmambdjabGreatDoor
open Go.Proofs Go.RowKit
open Go.ChangeShapes Go.WideShapes Go.ChangeAt

theorem pow10ScriptSays : Rows.laid_internal_strconv_uint64pow10 (H := Unit) = Lib.tabData .u64 Lib.pow10Tab := by kernel_rfl
theorem spaceScriptSays : Rows.laid_strings_asciiSpace (H := Unit) = Lib.tabData .u8 Lib.asciiSpaceTab := by kernel_rfl
theorem starScriptSays : "*" ++ "errors.errorString" = "*errors.errorString" := by decide
theorem rowErrScriptSays (u : TypeId) (h : Tryz.prog.typeName? 3 u = some "*errors.errorString") : u = 343 :=
  typeName_ptr_named (nm := "errors.errorString") (by rw [starScriptSays]; kernel_rfl) (by kernel_rfl) (by decide) u (by rw [starScriptSays]; exact h)
theorem gErrSyntaxScriptSays : Tryz.prog.globalNamed "strconv.ErrSyntax" = some 3 := by kernel_rfl
theorem tErrSyntaxScriptSays : (Tryz.prog.globals[3]?).map (·.type) = some 84 := by kernel_rfl
theorem laidErrSyntaxScriptSays {W : World} (h : laidMet Tryz.prog Rows.scriptSaysRow.laid W) : ∃ tp p, W.var? Tryz.prog "strconv.ErrSyntax" = some #[.iface tp p] := by
  obtain ⟨a, s, hv, -, -, -⟩ := laid_sentinel (h.tail.tail.tail.tail.tail) gErrSyntaxScriptSays tErrSyntaxScriptSays Tryz.underlying84 rowErrScriptSays Tryz.underlying343 Tryz.underlying345 rfl rfl Tryz.underlying9 (show Tryz.prog.cellsOf 345 = 1 by kernel_rfl) (show Tryz.prog.cellsOf 9 = 1 by kernel_rfl)
  exact ⟨_, _, hv⟩
theorem gErrRangeScriptSays : Tryz.prog.globalNamed "strconv.ErrRange" = some 4 := by kernel_rfl
theorem tErrRangeScriptSays : (Tryz.prog.globals[4]?).map (·.type) = some 84 := by kernel_rfl
theorem laidErrRangeScriptSays {W : World} (h : laidMet Tryz.prog Rows.scriptSaysRow.laid W) : ∃ tp p, W.var? Tryz.prog "strconv.ErrRange" = some #[.iface tp p] := by
  obtain ⟨a, s, hv, -, -, -⟩ := laid_sentinel (h.tail.tail.tail.tail) gErrRangeScriptSays tErrRangeScriptSays Tryz.underlying84 rowErrScriptSays Tryz.underlying343 Tryz.underlying345 rfl rfl Tryz.underlying9 (show Tryz.prog.cellsOf 345 = 1 by kernel_rfl) (show Tryz.prog.cellsOf 9 = 1 by kernel_rfl)
  exact ⟨_, _, hv⟩
theorem ownScriptSays : ownKnob Tryz.prog.godebug = none := by kernel_rfl
theorem laidOutScriptSays : laidOutB Tryz.prog = true := by kernel_rfl
set_option maxRecDepth 100000 in
theorem liftedScriptSays (os : Os) (started : os.Started) (H : Type) (enc : TypeId × Value → H) :
    ReturnsInHanded {} Tryz.checked os 5 .any (fun w args => (Rows.scriptSaysSpec.pre enc Tryz.prog Tryz.f5 Rows.scriptSaysRow.domain false w args ∧ laidMetH Tryz.prog Rows.scriptSaysRow.laid w) ∧ sizedMet enc Tryz.prog Tryz.f5 (OpenSpec.ofChange Rows.scriptSaysSpec) false w args) (Rows.scriptSaysSpec.post enc Tryz.prog Tryz.f5 false true false false) := by
  refine Gv.returns_both (C := Tryz.checked) (X := fun w _ => laidMetH Tryz.prog Rows.scriptSaysRow.laid w) (fun _ _ _ hh h => h.of_heap hh) ownScriptSays started (by kernel_rfl) Tryz.func5
    (ChangeSpec.witness_shaped (enc := enc) (C := Tryz.checked) (os := os) (X := fun w _ => laidMetH Tryz.prog Rows.scriptSaysRow.laid w) false (World.laidAll Tryz.prog os Rows.scriptSaysRow.laid) #[(.slice none 0 0), (.string ⟨#[]⟩), (.agg #[(.slice none 0 0), (.slice none 0 0), (.string ⟨#[]⟩)])] 8 (World.laidAll_os _ _ _)
      (World.shaped_of_ZipB (by kernel_rfl) (by kernel_rfl)) (by kernel_rfl) (by kernel_rfl) (by kernel_rfl)
      (by rw [MakeChecks.laidMetH_plain _ _ _ (by kernel_rfl)]; exact laidMet_laidAll _ (by kernel_rfl) (by kernel_rfl))) ?_
  intro W base args ds gs before hval0 hW hsz0 hL hsh
  have hval : ∀ (j : Nat) t v, Tryz.f5.params[j]? = some t → args[j]? = some v → Value.okWide Tryz.prog W .any base t v := hval0
  have hsz : (DataW.weightsEach Tryz.prog (Tryz.f5.params.toList ++ []) (ds ++ gs)).all (· ≤ reachBytes) = true := hsz0
  clear hsz0
  rw [MakeChecks.laidMetH_plain _ _ _ (by kernel_rfl)] at hL
  letI : Gv.Glob := Gv.worldGlob W
  haveI : Gv.Laid := ⟨Gv.all_int (P := Tryz.prog) hsh (g := 2) (t := 3) (zero := #[.int .i64 0]) (of_decide_eq_true (by kernel_rfl)) (by kernel_rfl) rfl (by kernel_rfl) (by kernel_rfl) Tryz.underlying3⟩
  have hP : laidMet Tryz.prog (("internal/strconv.uint64pow10", Lib.tabData .u64 Lib.pow10Tab) :: Rows.scriptSaysRow.laid.drop 3) W := by
    rw [← pow10ScriptSays]
    exact hL.tail.tail
  haveI : Gv.Nums := ⟨Gv.all_tab (Lib.tabIs_of_head (g := 5) (t := 339) (by kernel_rfl) (by kernel_rfl) Tryz.underlying339 Tryz.underlying260 (by kernel_rfl) (by kernel_rfl) hP)⟩
  have hSp : laidMet Tryz.prog (("strings.asciiSpace", Lib.tabData .u8 Lib.asciiSpaceTab) :: Rows.scriptSaysRow.laid.drop 8) W := by
    rw [← spaceScriptSays]
    exact hL.tail.tail.tail.tail.tail.tail.tail
  haveI : Gv.Spaces := ⟨Gv.all_tab (Lib.tabIs_of_head (g := 0) (t := 225) (by kernel_rfl) (by kernel_rfl) Tryz.underlying225 Tryz.underlying5 (by kernel_rfl) (by kernel_rfl) hSp)⟩
  haveI : Gv.Errs := ⟨fun w hw => let ⟨tp, p, e⟩ := laidErrSyntaxScriptSays hL; ⟨tp, p, Gv.all_var hw e⟩, fun w hw => let ⟨tp, p, e⟩ := laidErrRangeScriptSays hL; ⟨tp, p, Gv.all_var hw e⟩⟩
  have hW' := hW
  obtain ⟨p, q, hA0, hV, rfl, hfz, hnd⟩ := hW
  have hA : DataW.TrodAll enc Tryz.prog W 0 (fun _ => true) true Tryz.f5.params.toList args.toList ds p := hA0
  rw [Tryz.params5] at hA hval hsz
  obtain ⟨v0, vs0, d0, ds0, p0, q0, hargs, rfl, rfl, k0, r0⟩ := trodAll_cons hA
  obtain ⟨v1, vs1, d1, ds1, p1, q1, rfl, rfl, rfl, k1, r1⟩ := trodAll_cons r0
  obtain ⟨v2, vs2, d2, ds2, p2, q2, rfl, rfl, rfl, k2, r2⟩ := trodAll_cons r1
  obtain ⟨rfl, rfl, rfl⟩ := trodAll_nil r2
  obtain rfl : args = #[v0, v1, v2] := by cases args; simp_all
  obtain ⟨rfl, rfl⟩ := trodVars_none hV
  have lt0 : ∀ x ∈ p0, x.block < W.heap.size := by obtain ⟨m, hm⟩ := k0; exact DataW.trod_lt m _ _ _ hm
  have lt1 : ∀ x ∈ p1, x.block < W.heap.size := by obtain ⟨m, hm⟩ := k1; exact DataW.trod_lt m _ _ _ hm
  have lt2 : ∀ x ∈ p2, x.block < W.heap.size := by obtain ⟨m, hm⟩ := k2; exact DataW.trod_lt m _ _ _ hm
  have wt0 : ∀ n ∈ d0.weights Tryz.prog 23, n ≤ reachBytes := fun n hn => by simpa using List.all_eq_true.1 hsz n (DataW.weights_mem_each (j := 0) rfl rfl n hn)
  have wt1 : ∀ n ∈ d1.weights Tryz.prog 9, n ≤ reachBytes := fun n hn => by simpa using List.all_eq_true.1 hsz n (DataW.weights_mem_each (j := 1) rfl rfl n hn)
  have wt2 : ∀ n ∈ d2.weights Tryz.prog 27, n ≤ reachBytes := fun n hn => by simpa using List.all_eq_true.1 hsz n (DataW.weights_mem_each (j := 2) rfl rfl n hn)
  obtain ⟨a0, I0, g0⟩ := Gv.arg_slice Tryz.underlying23 (hval 0 23 v0 rfl rfl) (Gv.opn_slice (k := 3) Tryz.underlying23 (by kernel_rfl) (by omega) Gv.opn_line) k0 wt0
  obtain ⟨a1, I1, g1⟩ := Gv.arg_str Tryz.underlying9 (hval 1 9 v1 rfl rfl) k1 wt1
  obtain ⟨a2, I2, g2⟩ := Gv.arg_struct Tryz.underlying27 (hval 2 27 v2 rfl rfl) Gv.opn_line k2 wt2
  clear hA0 hval0
  refine (Gv.law_calls Gv.sSaysT_ok W (Gv.worldGlob_le W) rfl (Gv.vr_cons g0 (Gv.vr_cons g1 (Gv.vr_cons g2 Gv.vr_nil))) ⟨a0, a1, a2, rfl, rfl⟩).mono fun e W' ⟨he, bel0⟩ => ?_
  have bel := bel0.below
  subst he
  exact ⟨_, rfl, _, _, _, [], _, [], hW', trodAll_mk1 (shut_bool Tryz.underlying4 _), (trodAll_cons_mk (Below.trod laidOutScriptSays (by kernel_rfl) (of_decide_eq_true (by kernel_rfl)) k0 bel lt0) (trodAll_cons_mk (Below.trod laidOutScriptSays (by kernel_rfl) (of_decide_eq_true (by kernel_rfl)) k1 bel lt1) (trodAll_cons_mk (Below.trod laidOutScriptSays (by kernel_rfl) (of_decide_eq_true (by kernel_rfl)) k2 bel lt2) trodAll_mk0))), rfl, bel.frame _, fun h => by cases h⟩

theorem and_t {a b : Bool} (h : a = true) (k : b = true) : (a && b) = true := by rw [h, k]; rfl
theorem fact0ScriptSays : (Rows.scriptSaysRow.wf (OpenSpec.ofChange Rows.scriptSaysSpec)) = true := by kernel_rfl
theorem fact1ScriptSays : (laidOutB Tryz.prog) = true := by kernel_rfl
theorem fact2ScriptSays : (mapsRowed Tryz.prog) = true := by kernel_rfl
theorem fact3ScriptSays : (Tryz.f5.params.all (Tryz.prog.readableRec ·)) = true := by kernel_rfl
theorem fact4ScriptSays : (namedTie Tryz.prog Rows.scriptSaysRow.named Rows.scriptSaysSpec.vars) = true := by kernel_rfl
theorem fact5ScriptSays : ((Rows.scriptSaysRow.stops == [])) = true := by kernel_rfl
theorem fact6ScriptSays : ((Tryz.prog.stops == [])) = true := by kernel_rfl
theorem fact7ScriptSays : ((Rows.scriptSaysRow.knobs == [])) = true := by kernel_rfl
theorem fact8ScriptSays : ((Tryz.prog.stopKnobs == [])) = true := by kernel_rfl
theorem fact9ScriptSays : ((Rows.scriptSaysRow.inPlace == Tryz.prog.inPlace 5)) = true := by kernel_rfl
theorem fact10ScriptSays : ((Rows.scriptSaysRow.unfollowed == Tryz.prog.unfollowed 5)) = true := by kernel_rfl
theorem fact11ScriptSays : ((Rows.scriptSaysRow.recurses == Tryz.prog.recurses 5)) = true := by kernel_rfl
theorem fact12ScriptSays : ((Rows.scriptSaysRow.named == Tryz.prog.varsNamed 5)) = true := by kernel_rfl
theorem fact13ScriptSays : ((Rows.scriptSaysRow.maps == (Tryz.f5.params.toList ++ Rows.scriptSaysSpec.plain.varTypes Tryz.prog).any (Tryz.prog.mapsRec ·))) = true := by kernel_rfl
theorem fact14ScriptSays : ((Rows.scriptSaysRow.ifaces == (Tryz.f5.params.toList ++ Rows.scriptSaysSpec.plain.varTypes Tryz.prog).any (Tryz.prog.ifacesRec ·))) = true := by kernel_rfl
theorem fact15ScriptSays : ((Rows.scriptSaysRow.mapsOut == Tryz.prog.mapsAmong Tryz.f5.resultTypes.toList)) = true := by kernel_rfl
theorem fact16ScriptSays : ((Rows.scriptSaysRow.loops == (Tryz.f5.params.toList ++ Rows.scriptSaysSpec.plain.varTypes Tryz.prog).any (Tryz.prog.loopsFrom ·))) = true := by kernel_rfl
theorem fact17ScriptSays : ((Rows.scriptSaysRow.wideKeys == (Tryz.f5.params.toList ++ Rows.scriptSaysSpec.plain.varTypes Tryz.prog ++ Tryz.f5.resultTypes.toList).any (Tryz.prog.wideKeysFrom ·))) = true := by kernel_rfl
theorem fact18ScriptSays : (Rows.scriptSaysSpec.vars.all (Tryz.prog.varReadable ·)) = true := by kernel_rfl
theorem fact19ScriptSays : (Tryz.f5.resultTypes.all (fun t => Tryz.prog.readableRec t && decide (t < Tryz.prog.types.size))) = true := by kernel_rfl
theorem fact20ScriptSays : ((Rows.scriptSaysRow.ifacesOut == Tryz.f5.resultTypes.toList.any (Tryz.prog.ifacesRec ·))) = true := by kernel_rfl
theorem fact21ScriptSays : ((Rows.scriptSaysRow.loopsOut == Tryz.f5.resultTypes.toList.any (Tryz.prog.loopsFrom ·))) = true := by kernel_rfl
theorem fact22ScriptSays : ((Rows.scriptSaysRow.plainKeys == Tryz.prog.plainKeys)) = true := by kernel_rfl
theorem fact23ScriptSays : (Rows.scriptSaysRow.shortTexts.isNone) = true := by kernel_rfl
theorem fact24ScriptSays : (Tryz.prog.stopsHeard) = true := by kernel_rfl
theorem fact25ScriptSays : (Tryz.prog.mayEnter) = true := by kernel_rfl
theorem fact26ScriptSays : ((Rows.scriptSaysRow.lifted == Tryz.prog.liftsFinal)) = true := by kernel_rfl
theorem fact27ScriptSays : ((Tryz.prog.make == some Rows.scriptSaysRow.make)) = true := by kernel_rfl
theorem fact28ScriptSays : ((Rows.scriptSaysRow.kinds == (if Rows.scriptSaysRow.domain.isEmpty then [] else Tryz.f5.params.toList.map fun t => match Tryz.prog.underlying t with | some (.int k) => some k | _ => none))) = true := by kernel_rfl
theorem fact29ScriptSays : ((Rows.scriptSaysRow.pinned == Rows.scriptSaysRow.pinnedBy)) = true := by kernel_rfl
theorem fact30ScriptSays : ((Rows.scriptSaysRow.veiled == (Tryz.f5.params.toList ++ Rows.scriptSaysSpec.plain.varTypes Tryz.prog ++ Tryz.f5.resultTypes.toList).any (Tryz.prog.veiledRec ·))) = true := by kernel_rfl
theorem fact31ScriptSays : (Rows.scriptSaysRow.veiledFits Tryz.prog Tryz.f5.params.toList (Tryz.f5.params.toList ++ Rows.scriptSaysSpec.plain.varTypes Tryz.prog ++ Tryz.f5.resultTypes.toList)) = true := by kernel_rfl
set_option maxRecDepth 100000 in
theorem closedScriptSays : joinedFacts Tryz.prog 5 Tryz.f5 Rows.scriptSaysSpec Rows.scriptSaysRow = true := by
  unfold joinedFacts
  exact (and_t (and_t (and_t (and_t (and_t (and_t (and_t (and_t (and_t (and_t (and_t (and_t (and_t (and_t (and_t (and_t (and_t (and_t (and_t (and_t (and_t (and_t (and_t (and_t (and_t (and_t (and_t (and_t (and_t (and_t (and_t fact0ScriptSays fact1ScriptSays) fact2ScriptSays) fact3ScriptSays) fact4ScriptSays) fact5ScriptSays) fact6ScriptSays) fact7ScriptSays) fact8ScriptSays) fact9ScriptSays) fact10ScriptSays) fact11ScriptSays) fact12ScriptSays) fact13ScriptSays) fact14ScriptSays) fact15ScriptSays) fact16ScriptSays) fact17ScriptSays) fact18ScriptSays) fact19ScriptSays) fact20ScriptSays) fact21ScriptSays) fact22ScriptSays) fact23ScriptSays) fact24ScriptSays) fact25ScriptSays) fact26ScriptSays) fact27ScriptSays) fact28ScriptSays) fact29ScriptSays) fact30ScriptSays) fact31ScriptSays)
theorem fNamedScriptSays : Tryz.prog.funcNamed "gangsaw/gangsawlaw.ScriptSays" = some 5 := by kernel_rfl
theorem instScriptSays : Tryz.f5.isInstance Tryz.prog Rows.scriptSaysRow.origin Rows.scriptSaysRow.targs := of_decide_eq_true (by kernel_rfl)
theorem wrapScriptSays : Tryz.f5.isWrapper Tryz.prog Rows.scriptSaysRow.wrapper Rows.scriptSaysRow.mainSum := by unfold Func.isWrapper; first | (rw [if_pos (by decide +kernel)]; kernel_rfl) | (rw [if_neg (by decide +kernel)]; exact ⟨rfl, rfl⟩)
theorem overScriptSays : Rows.scriptSaysRow.holds Tryz.pinned (OpenSpec.ofChange Rows.scriptSaysSpec) :=
  OpenClaim.holds_of_wide 5 Tryz.f5 rfl rfl rfl rfl rfl rfl rfl ⟨rfl, rfl, rfl, rfl, rfl⟩ rfl rfl rfl rfl rfl fNamedScriptSays Tryz.func5 closedScriptSays instScriptSays wrapScriptSays
    (fun os started H enc _ => liftedScriptSays os started H enc)

theorem byTextScriptSays : Rows.scriptSaysRow.wfByText (OpenSpec.ofChange Rows.scriptSaysSpec) = true := by kernel_rfl
theorem mainScriptSays : Tryz.prog.mainIs = some (((true, "b426d36aee87a7ddd55f45017cccf55016e8ded7f58b3cb4097dc16445e1fe35") : Bool × String).1, ((true, "b426d36aee87a7ddd55f45017cccf55016e8ded7f58b3cb4097dc16445e1fe35") : Bool × String).2.toList) := by kernel_rfl
theorem looksScriptSays : true = Tryz.prog.looks [] := by kernel_rfl
theorem standScriptSays : ([23, 9, 27].all fun u => !Tryz.prog.wantsStandIn u) = true := by kernel_rfl
theorem goesScriptSays : false = Rows.scriptSaysRow.goesBy Tryz.prog := by kernel_rfl
theorem provedScriptSays : Rows.ScriptSaysCardSaid :=
  Claim7.holds_tied_plain_at .later [] [.data, .data, .data, .data, .sentinel, .sentinel, .listed, .data, .pinned] true (true, "b426d36aee87a7ddd55f45017cccf55016e8ded7f58b3cb4097dc16445e1fe35") true
    overScriptSays (fun _ h => by cases h) byTextScriptSays (fun _ h => by cases h) scriptSays_row_tie rfl ⟨rfl, rfl⟩ mainScriptSays rfl
    (fun f fn hf hfn => by
      obtain rfl : f = 5 := Option.some.inj (fNamedScriptSays.symm.trans hf) |>.symm
      obtain rfl : fn = Tryz.f5 := (Option.some.inj (Tryz.func5.symm.trans hfn)).symm
      exact ⟨looksScriptSays, fun j t ht => by
        rw [Tryz.params5] at ht
        have hm : t ∈ [23, 9, 27] := by simpa using Array.mem_of_getElem? ht
        exact (show Tryz.prog.wantsStandIn t = false by simpa using List.all_eq_true.1 standScriptSays t hm)⟩)
    goesScriptSays

end Go.Proofs.YtffljdmmambdjabGreatDoor

