/- ScriptBack, as it is given: for every input the law returns true, and each argument reads as it did; the row's condition is what the card ties: the listed variables hold what the program's text lays. -/
import Derived.Test.YtffljdmmambdjaaDoorF2
import Derived.Test.YtffljdmmambdjaaDoorCards
import Derived.Test.YtffljdmmambdjaaDoorTie
import Derived.ProofKit
import Derived.OpenShut
import Derived.ChangeOld
import Derived.Below
import Derived.SizedLaws
import Derived.LaidMore
import Derived.Lay
import Derived.SevenTiedAt
import Derived.Stop.LaidErr
import Derived.LaidLaws
set_option linter.unusedVariables false
set_option linter.unusedSimpArgs false
namespace Go.Proofs.YtffljdmmambdjaaDoor
open Go.Proofs Go.RowKit
open Go.ChangeShapes Go.WideShapes Go.ChangeAt

theorem pow10ScriptBack : Rows.laid_internal_strconv_uint64pow10 (H := Unit) = Lib.tabData .u64 Lib.pow10Tab := by kernel_rfl
theorem starScriptBack : "*" ++ "errors.errorString" = "*errors.errorString" := by decide
theorem rowErrScriptBack (u : TypeId) (h : Tryd.prog.typeName? 3 u = some "*errors.errorString") : u = 221 :=
  typeName_ptr_named (nm := "errors.errorString") (by rw [starScriptBack]; kernel_rfl) (by kernel_rfl) (by decide) u (by rw [starScriptBack]; exact h)
theorem gErrSyntaxScriptBack : Tryd.prog.globalNamed "strconv.ErrSyntax" = some 2 := by kernel_rfl
theorem tErrSyntaxScriptBack : (Tryd.prog.globals[2]?).map (·.type) = some 104 := by kernel_rfl
theorem laidErrSyntaxScriptBack {W : World} (h : laidMet Tryd.prog Rows.scriptBackRow.laid W) : ∃ tp p, W.var? Tryd.prog "strconv.ErrSyntax" = some #[.iface tp p] := by
  obtain ⟨a, s, hv, -, -, -⟩ := laid_sentinel (h.tail.tail.tail.tail.tail) gErrSyntaxScriptBack tErrSyntaxScriptBack Tryd.underlying104 rowErrScriptBack Tryd.underlying221 Tryd.underlying223 rfl rfl Tryd.underlying9 (show Tryd.prog.cellsOf 223 = 1 by kernel_rfl) (show Tryd.prog.cellsOf 9 = 1 by kernel_rfl)
  exact ⟨_, _, hv⟩
theorem gErrRangeScriptBack : Tryd.prog.globalNamed "strconv.ErrRange" = some 3 := by kernel_rfl
theorem tErrRangeScriptBack : (Tryd.prog.globals[3]?).map (·.type) = some 104 := by kernel_rfl
theorem laidErrRangeScriptBack {W : World} (h : laidMet Tryd.prog Rows.scriptBackRow.laid W) : ∃ tp p, W.var? Tryd.prog "strconv.ErrRange" = some #[.iface tp p] := by
  obtain ⟨a, s, hv, -, -, -⟩ := laid_sentinel (h.tail.tail.tail.tail) gErrRangeScriptBack tErrRangeScriptBack Tryd.underlying104 rowErrScriptBack Tryd.underlying221 Tryd.underlying223 rfl rfl Tryd.underlying9 (show Tryd.prog.cellsOf 223 = 1 by kernel_rfl) (show Tryd.prog.cellsOf 9 = 1 by kernel_rfl)
  exact ⟨_, _, hv⟩
theorem ownScriptBack : ownKnob Tryd.prog.godebug = none := by kernel_rfl
theorem laidOutScriptBack : laidOutB Tryd.prog = true := by kernel_rfl
set_option maxRecDepth 100000 in
theorem liftedScriptBack (os : Os) (started : os.Started) (H : Type) (enc : TypeId × Value → H) :
    ReturnsInHanded {} Tryd.checked os 6 .any (fun w args => (Rows.scriptBackSpec.pre enc Tryd.prog Tryd.f6 Rows.scriptBackRow.domain false w args ∧ laidMetH Tryd.prog Rows.scriptBackRow.laid w) ∧ sizedMet enc Tryd.prog Tryd.f6 (OpenSpec.ofChange Rows.scriptBackSpec) false w args) (Rows.scriptBackSpec.post enc Tryd.prog Tryd.f6 false true false false) := by
  refine Gv.returns_both (C := Tryd.checked) (X := fun w _ => laidMetH Tryd.prog Rows.scriptBackRow.laid w) (fun _ _ _ hh h => h.of_heap hh) ownScriptBack started (by kernel_rfl) Tryd.func6
    (ChangeSpec.witness_shaped (enc := enc) (C := Tryd.checked) (os := os) (X := fun w _ => laidMetH Tryd.prog Rows.scriptBackRow.laid w) false (World.laidAll Tryd.prog os Rows.scriptBackRow.laid) #[(.slice none 0 0), (.slice none 0 0), (.string ⟨#[]⟩)] 8 (World.laidAll_os _ _ _)
      (World.shaped_of_ZipB (by kernel_rfl) (by kernel_rfl)) (by kernel_rfl) (by kernel_rfl) (by kernel_rfl)
      (by rw [MakeChecks.laidMetH_plain _ _ _ (by kernel_rfl)]; exact laidMet_laidAll _ (by kernel_rfl) (by kernel_rfl))) ?_
  intro W base args ds gs before hval0 hW hsz0 hL hsh
  have hval : ∀ (j : Nat) t v, Tryd.f6.params[j]? = some t → args[j]? = some v → Value.okWide Tryd.prog W .any base t v := hval0
  have hsz : (DataW.weightsEach Tryd.prog (Tryd.f6.params.toList ++ []) (ds ++ gs)).all (· ≤ reachBytes) = true := hsz0
  clear hsz0
  rw [MakeChecks.laidMetH_plain _ _ _ (by kernel_rfl)] at hL
  letI : Gv.Glob := Gv.worldGlob W
  haveI : Gv.Laid := ⟨Gv.all_int (P := Tryd.prog) hsh (g := 0) (t := 3) (zero := #[.int .i64 0]) (of_decide_eq_true (by kernel_rfl)) (by kernel_rfl) rfl (by kernel_rfl) (by kernel_rfl) Tryd.underlying3⟩
  have hP : laidMet Tryd.prog (("internal/strconv.uint64pow10", Lib.tabData .u64 Lib.pow10Tab) :: Rows.scriptBackRow.laid.drop 3) W := by
    rw [← pow10ScriptBack]
    exact hL.tail.tail
  haveI : Gv.Nums := ⟨Gv.all_tab (Lib.tabIs_of_head (g := 1) (t := 205) (by kernel_rfl) (by kernel_rfl) Tryd.underlying205 Tryd.underlying153 (by kernel_rfl) (by kernel_rfl) hP)⟩
  haveI : Gv.Errs := ⟨fun w hw => let ⟨tp, p, e⟩ := laidErrSyntaxScriptBack hL; ⟨tp, p, Gv.all_var hw e⟩, fun w hw => let ⟨tp, p, e⟩ := laidErrRangeScriptBack hL; ⟨tp, p, Gv.all_var hw e⟩⟩
  have hW' := hW
  obtain ⟨p, q, hA0, hV, rfl, hfz, hnd⟩ := hW
  have hA : DataW.TrodAll enc Tryd.prog W 0 (fun _ => true) true Tryd.f6.params.toList args.toList ds p := hA0
  rw [Tryd.params6] at hA hval hsz
  obtain ⟨v0, vs0, d0, ds0, p0, q0, hargs, rfl, rfl, k0, r0⟩ := trodAll_cons hA
  obtain ⟨v1, vs1, d1, ds1, p1, q1, rfl, rfl, rfl, k1, r1⟩ := trodAll_cons r0
  obtain ⟨v2, vs2, d2, ds2, p2, q2, rfl, rfl, rfl, k2, r2⟩ := trodAll_cons r1
  obtain ⟨rfl, rfl, rfl⟩ := trodAll_nil r2
  obtain rfl : args = #[v0, v1, v2] := by cases args; simp_all
  obtain ⟨rfl, rfl⟩ := trodVars_none hV
  have lt0 : ∀ x ∈ p0, x.block < W.heap.size := by obtain ⟨m, hm⟩ := k0; exact DataW.trod_lt m _ _ _ hm
  have lt1 : ∀ x ∈ p1, x.block < W.heap.size := by obtain ⟨m, hm⟩ := k1; exact DataW.trod_lt m _ _ _ hm
  have lt2 : ∀ x ∈ p2, x.block < W.heap.size := by obtain ⟨m, hm⟩ := k2; exact DataW.trod_lt m _ _ _ hm
  have wt0 : ∀ n ∈ d0.weights Tryd.prog 53, n ≤ reachBytes := fun n hn => by simpa using List.all_eq_true.1 hsz n (DataW.weights_mem_each (j := 0) rfl rfl n hn)
  have wt1 : ∀ n ∈ d1.weights Tryd.prog 53, n ≤ reachBytes := fun n hn => by simpa using List.all_eq_true.1 hsz n (DataW.weights_mem_each (j := 1) rfl rfl n hn)
  have wt2 : ∀ n ∈ d2.weights Tryd.prog 9, n ≤ reachBytes := fun n hn => by simpa using List.all_eq_true.1 hsz n (DataW.weights_mem_each (j := 2) rfl rfl n hn)
  obtain ⟨a0, I0, g0⟩ := Gv.arg_slice Tryd.underlying53 (hval 0 53 v0 rfl rfl) (Gv.opn_slice (k := 3) Tryd.underlying53 (by kernel_rfl) (by omega) Gv.opn_line) k0 wt0
  obtain ⟨a1, I1, g1⟩ := Gv.arg_slice Tryd.underlying53 (hval 1 53 v1 rfl rfl) (Gv.opn_slice (k := 3) Tryd.underlying53 (by kernel_rfl) (by omega) Gv.opn_line) k1 wt1
  obtain ⟨a2, I2, g2⟩ := Gv.arg_str Tryd.underlying9 (hval 2 9 v2 rfl rfl) k2 wt2
  clear hA0 hval0
  refine (Gv.law_calls Gv.scBackT_ok W (Gv.worldGlob_le W) rfl (Gv.vr_cons g0 (Gv.vr_cons g1 (Gv.vr_cons g2 Gv.vr_nil))) ⟨a0, a1, a2, rfl, rfl⟩).mono fun e W' ⟨he, bel0⟩ => ?_
  have bel := bel0.below
  subst he
  exact ⟨_, rfl, _, _, _, [], _, [], hW', trodAll_mk1 (shut_bool Tryd.underlying4 _), (trodAll_cons_mk (Below.trod laidOutScriptBack (by kernel_rfl) (of_decide_eq_true (by kernel_rfl)) k0 bel lt0) (trodAll_cons_mk (Below.trod laidOutScriptBack (by kernel_rfl) (of_decide_eq_true (by kernel_rfl)) k1 bel lt1) (trodAll_cons_mk (Below.trod laidOutScriptBack (by kernel_rfl) (of_decide_eq_true (by kernel_rfl)) k2 bel lt2) trodAll_mk0))), rfl, bel.frame _, fun h => by cases h⟩

theorem and_t {a b : Bool} (h : a = true) (k : b = true) : (a && b) = true := by rw [h, k]; rfl
theorem fact0ScriptBack : (Rows.scriptBackRow.wf (OpenSpec.ofChange Rows.scriptBackSpec)) = true := by kernel_rfl
theorem fact1ScriptBack : (laidOutB Tryd.prog) = true := by kernel_rfl
theorem fact2ScriptBack : (mapsRowed Tryd.prog) = true := by kernel_rfl
theorem fact3ScriptBack : (Tryd.f6.params.all (Tryd.prog.readableRec ·)) = true := by kernel_rfl
theorem fact4ScriptBack : (namedTie Tryd.prog Rows.scriptBackRow.named Rows.scriptBackSpec.vars) = true := by kernel_rfl
theorem fact5ScriptBack : ((Rows.scriptBackRow.stops == [])) = true := by kernel_rfl
theorem fact6ScriptBack : ((Tryd.prog.stops == [])) = true := by kernel_rfl
theorem fact7ScriptBack : ((Rows.scriptBackRow.knobs == [])) = true := by kernel_rfl
theorem fact8ScriptBack : ((Tryd.prog.stopKnobs == [])) = true := by kernel_rfl
theorem fact9ScriptBack : ((Rows.scriptBackRow.inPlace == Tryd.prog.inPlace 6)) = true := by kernel_rfl
theorem fact10ScriptBack : ((Rows.scriptBackRow.unfollowed == Tryd.prog.unfollowed 6)) = true := by kernel_rfl
theorem fact11ScriptBack : ((Rows.scriptBackRow.recurses == Tryd.prog.recurses 6)) = true := by kernel_rfl
theorem fact12ScriptBack : ((Rows.scriptBackRow.named == Tryd.prog.varsNamed 6)) = true := by kernel_rfl
theorem fact13ScriptBack : ((Rows.scriptBackRow.maps == (Tryd.f6.params.toList ++ Rows.scriptBackSpec.plain.varTypes Tryd.prog).any (Tryd.prog.mapsRec ·))) = true := by kernel_rfl
theorem fact14ScriptBack : ((Rows.scriptBackRow.ifaces == (Tryd.f6.params.toList ++ Rows.scriptBackSpec.plain.varTypes Tryd.prog).any (Tryd.prog.ifacesRec ·))) = true := by kernel_rfl
theorem fact15ScriptBack : ((Rows.scriptBackRow.mapsOut == Tryd.prog.mapsAmong Tryd.f6.resultTypes.toList)) = true := by kernel_rfl
theorem fact16ScriptBack : ((Rows.scriptBackRow.loops == (Tryd.f6.params.toList ++ Rows.scriptBackSpec.plain.varTypes Tryd.prog).any (Tryd.prog.loopsFrom ·))) = true := by kernel_rfl
theorem fact17ScriptBack : ((Rows.scriptBackRow.wideKeys == (Tryd.f6.params.toList ++ Rows.scriptBackSpec.plain.varTypes Tryd.prog ++ Tryd.f6.resultTypes.toList).any (Tryd.prog.wideKeysFrom ·))) = true := by kernel_rfl
theorem fact18ScriptBack : (Rows.scriptBackSpec.vars.all (Tryd.prog.varReadable ·)) = true := by kernel_rfl
theorem fact19ScriptBack : (Tryd.f6.resultTypes.all (fun t => Tryd.prog.readableRec t && decide (t < Tryd.prog.types.size))) = true := by kernel_rfl
theorem fact20ScriptBack : ((Rows.scriptBackRow.ifacesOut == Tryd.f6.resultTypes.toList.any (Tryd.prog.ifacesRec ·))) = true := by kernel_rfl
theorem fact21ScriptBack : ((Rows.scriptBackRow.loopsOut == Tryd.f6.resultTypes.toList.any (Tryd.prog.loopsFrom ·))) = true := by kernel_rfl
theorem fact22ScriptBack : ((Rows.scriptBackRow.plainKeys == Tryd.prog.plainKeys)) = true := by kernel_rfl
theorem fact23ScriptBack : (Rows.scriptBackRow.shortTexts.isNone) = true := by kernel_rfl
theorem fact24ScriptBack : (Tryd.prog.stopsHeard) = true := by kernel_rfl
theorem fact25ScriptBack : (Tryd.prog.mayEnter) = true := by kernel_rfl
theorem fact26ScriptBack : ((Rows.scriptBackRow.lifted == Tryd.prog.liftsFinal)) = true := by kernel_rfl
theorem fact27ScriptBack : ((Tryd.prog.make == some Rows.scriptBackRow.make)) = true := by kernel_rfl
theorem fact28ScriptBack : ((Rows.scriptBackRow.kinds == (if Rows.scriptBackRow.domain.isEmpty then [] else Tryd.f6.params.toList.map fun t => match Tryd.prog.underlying t with | some (.int k) => some k | _ => none))) = true := by kernel_rfl
theorem fact29ScriptBack : ((Rows.scriptBackRow.pinned == Rows.scriptBackRow.pinnedBy)) = true := by kernel_rfl
theorem fact30ScriptBack : ((Rows.scriptBackRow.veiled == (Tryd.f6.params.toList ++ Rows.scriptBackSpec.plain.varTypes Tryd.prog ++ Tryd.f6.resultTypes.toList).any (Tryd.prog.veiledRec ·))) = true := by kernel_rfl
theorem fact31ScriptBack : (Rows.scriptBackRow.veiledFits Tryd.prog Tryd.f6.params.toList (Tryd.f6.params.toList ++ Rows.scriptBackSpec.plain.varTypes Tryd.prog ++ Tryd.f6.resultTypes.toList)) = true := by kernel_rfl
set_option maxRecDepth 100000 in
theorem closedScriptBack : joinedFacts Tryd.prog 6 Tryd.f6 Rows.scriptBackSpec Rows.scriptBackRow = true := by
  unfold joinedFacts
  exact (and_t (and_t (and_t (and_t (and_t (and_t (and_t (and_t (and_t (and_t (and_t (and_t (and_t (and_t (and_t (and_t (and_t (and_t (and_t (and_t (and_t (and_t (and_t (and_t (and_t (and_t (and_t (and_t (and_t (and_t (and_t fact0ScriptBack fact1ScriptBack) fact2ScriptBack) fact3ScriptBack) fact4ScriptBack) fact5ScriptBack) fact6ScriptBack) fact7ScriptBack) fact8ScriptBack) fact9ScriptBack) fact10ScriptBack) fact11ScriptBack) fact12ScriptBack) fact13ScriptBack) fact14ScriptBack) fact15ScriptBack) fact16ScriptBack) fact17ScriptBack) fact18ScriptBack) fact19ScriptBack) fact20ScriptBack) fact21ScriptBack) fact22ScriptBack) fact23ScriptBack) fact24ScriptBack) fact25ScriptBack) fact26ScriptBack) fact27ScriptBack) fact28ScriptBack) fact29ScriptBack) fact30ScriptBack) fact31ScriptBack)
theorem fNamedScriptBack : Tryd.prog.funcNamed "gangsaw/gangsawlaw.ScriptBack" = some 6 := by kernel_rfl
theorem instScriptBack : Tryd.f6.isInstance Tryd.prog Rows.scriptBackRow.origin Rows.scriptBackRow.targs := of_decide_eq_true (by kernel_rfl)
theorem wrapScriptBack : Tryd.f6.isWrapper Tryd.prog Rows.scriptBackRow.wrapper Rows.scriptBackRow.mainSum := by unfold Func.isWrapper; first | (rw [if_pos (by decide +kernel)]; kernel_rfl) | (rw [if_neg (by decide +kernel)]; exact ⟨rfl, rfl⟩)
theorem overScriptBack : Rows.scriptBackRow.holds Tryd.pinned (OpenSpec.ofChange Rows.scriptBackSpec) :=
  OpenClaim.holds_of_wide 6 Tryd.f6 rfl rfl rfl rfl rfl rfl rfl ⟨rfl, rfl, rfl, rfl, rfl⟩ rfl rfl rfl rfl rfl fNamedScriptBack Tryd.func6 closedScriptBack instScriptBack wrapScriptBack
    (fun os started H enc _ => liftedScriptBack os started H enc)

theorem byTextScriptBack : Rows.scriptBackRow.wfByText (OpenSpec.ofChange Rows.scriptBackSpec) = true := by kernel_rfl
theorem mainScriptBack : Tryd.prog.mainIs = some (((true, "e2661f9fa138539de65c9de8d795f00442d421449050d11dade4e2e089fc6299") : Bool × String).1, ((true, "e2661f9fa138539de65c9de8d795f00442d421449050d11dade4e2e089fc6299") : Bool × String).2.toList) := by kernel_rfl
theorem looksScriptBack : true = Tryd.prog.looks [] := by kernel_rfl
theorem standScriptBack : ([53, 53, 9].all fun u => !Tryd.prog.wantsStandIn u) = true := by kernel_rfl
theorem goesScriptBack : false = Rows.scriptBackRow.goesBy Tryd.prog := by kernel_rfl
theorem provedScriptBack : Rows.ScriptBackCardSaid :=
  Claim7.holds_tied_plain_at .later [] [.data, .data, .data, .data, .sentinel, .sentinel, .pinned] true (true, "e2661f9fa138539de65c9de8d795f00442d421449050d11dade4e2e089fc6299") true
    overScriptBack (fun _ h => by cases h) byTextScriptBack (fun _ h => by cases h) scriptBack_row_tie rfl ⟨rfl, rfl⟩ mainScriptBack rfl
    (fun f fn hf hfn => by
      obtain rfl : f = 6 := Option.some.inj (fNamedScriptBack.symm.trans hf) |>.symm
      obtain rfl : fn = Tryd.f6 := (Option.some.inj (Tryd.func6.symm.trans hfn)).symm
      exact ⟨looksScriptBack, fun j t ht => by
        rw [Tryd.params6] at ht
        have hm : t ∈ [53, 53, 9] := by simpa using Array.mem_of_getElem? ht
        exact (show Tryd.prog.wantsStandIn t = false by simpa using List.all_eq_true.1 standScriptBack t hm)⟩)
    goesScriptBack

end Go.Proofs.YtffljdmmambdjaaDoor

