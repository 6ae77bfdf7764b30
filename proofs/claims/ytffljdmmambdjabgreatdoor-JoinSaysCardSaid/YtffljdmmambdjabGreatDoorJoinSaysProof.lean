/- JoinSays, as it is given: for every input the law returns true, and each argument reads as it did; the row's condition is what the card ties: the listed variables hold what the program's text lays. -/
import Derived.Test.YtffljdmmambdjabGreatDoorF2
import Derived.Test.YtffljdmmambdjabGreatDoorCards
import Derived.Test.YtffljdmmambdjabGreatDoorTie
import Derived.ProofKit
import Derived.OpenShut
import Derived.ChangeOld
import Derived.Below
import Derived.SizedLaws
import Derived.LaidMore
import Derived.Lay
import Derived.SevenTiedAt
import Derived.Stop.LaidErr
import Derived.LaidLaws
set_option linter.unusedVariables false
set_option linter.unusedSimpArgs false
namespace Go.Proofs.YtffljdmmambdjabGreatDoor
open Go.Proofs Go.RowKit
open Go.ChangeShapes Go.WideShapes Go.ChangeAt

theorem pow10JoinSays : Rows.laid_internal_strconv_uint64pow10 (H := Unit) = Lib.tabData .u64 Lib.pow10Tab := by kernel_rfl
theorem starJoinSays : "*" ++ "errors.errorString" = "*errors.errorString" := by decide
theorem rowErrJoinSays (u : TypeId) (h : Tryz.prog.typeName? 3 u = some "*errors.errorString") : u = 343 :=
  typeName_ptr_named (nm := "errors.errorString") (by rw [starJoinSays]; kernel_rfl) (by kernel_rfl) (by decide) u (by rw [starJoinSays]; exact h)
theorem gErrSyntaxJoinSays : Tryz.prog.globalNamed "strconv.ErrSyntax" = some 3 := by kernel_rfl
theorem tErrSyntaxJoinSays : (Tryz.prog.globals[3]?).map (·.type) = some 84 := by kernel_rfl
theorem laidErrSyntaxJoinSays {W : World} (h : laidMet Tryz.prog Rows.joinSaysRow.laid W) : ∃ tp p, W.var? Tryz.prog "strconv.ErrSyntax" = some #[.iface tp p] := by
  obtain ⟨a, s, hv, -, -, -⟩ := laid_sentinel (h.tail.tail.tail.tail.tail) gErrSyntaxJoinSays tErrSyntaxJoinSays Tryz.underlying84 rowErrJoinSays Tryz.underlying343 Tryz.underlying345 rfl rfl Tryz.underlying9 (show Tryz.prog.cellsOf 345 = 1 by kernel_rfl) (show Tryz.prog.cellsOf 9 = 1 by kernel_rfl)
  exact ⟨_, _, hv⟩
theorem gErrRangeJoinSays : Tryz.prog.globalNamed "strconv.ErrRange" = some 4 := by kernel_rfl
theorem tErrRangeJoinSays : (Tryz.prog.globals[4]?).map (·.type) = some 84 := by kernel_rfl
theorem laidErrRangeJoinSays {W : World} (h : laidMet Tryz.prog Rows.joinSaysRow.laid W) : ∃ tp p, W.var? Tryz.prog "strconv.ErrRange" = some #[.iface tp p] := by
  obtain ⟨a, s, hv, -, -, -⟩ := laid_sentinel (h.tail.tail.tail.tail) gErrRangeJoinSays tErrRangeJoinSays Tryz.underlying84 rowErrJoinSays Tryz.underlying343 Tryz.underlying345 rfl rfl Tryz.underlying9 (show Tryz.prog.cellsOf 345 = 1 by kernel_rfl) (show Tryz.prog.cellsOf 9 = 1 by kernel_rfl)
  exact ⟨_, _, hv⟩
theorem ownJoinSays : ownKnob Tryz.prog.godebug = none := by kernel_rfl
theorem laidOutJoinSays : laidOutB Tryz.prog = true := by kernel_rfl
set_option maxRecDepth 100000 in
theorem liftedJoinSays (os : Os) (started : os.Started) (H : Type) (enc : TypeId × Value → H) :
    ReturnsInHanded {} Tryz.checked os 11 .any (fun w args => (Rows.joinSaysSpec.pre enc Tryz.prog Tryz.f11 Rows.joinSaysRow.domain false w args ∧ laidMetH Tryz.prog Rows.joinSaysRow.laid w) ∧ sizedMet enc Tryz.prog Tryz.f11 (OpenSpec.ofChange Rows.joinSaysSpec) false w args) (Rows.joinSaysSpec.post enc Tryz.prog Tryz.f11 false true false false) := by
  refine Gv.returns_both (C := Tryz.checked) (X := fun w _ => laidMetH Tryz.prog Rows.joinSaysRow.laid w) (fun _ _ _ hh h => h.of_heap hh) ownJoinSays started (by kernel_rfl) Tryz.func11
    (ChangeSpec.witness_shaped (enc := enc) (C := Tryz.checked) (os := os) (X := fun w _ => laidMetH Tryz.prog Rows.joinSaysRow.laid w) false (World.laidAll Tryz.prog os Rows.joinSaysRow.laid) #[(.int .i64 0), (.agg #[(.int .i64 0), (.string ⟨#[]⟩), (.int .i64 0)]), (.slice none 0 0)] 8 (World.laidAll_os _ _ _)
      (World.shaped_of_ZipB (by kernel_rfl) (by kernel_rfl)) (by kernel_rfl) (by kernel_rfl) (by kernel_rfl)
      (by rw [MakeChecks.laidMetH_plain _ _ _ (by kernel_rfl)]; exact laidMet_laidAll _ (by kernel_rfl) (by kernel_rfl))) ?_
  intro W base args ds gs before hval0 hW hsz0 hL hsh
  have hval : ∀ (j : Nat) t v, Tryz.f11.params[j]? = some t → args[j]? = some v → Value.okWide Tryz.prog W .any base t v := hval0
  have hsz : (DataW.weightsEach Tryz.prog (Tryz.f11.params.toList ++ []) (ds ++ gs)).all (· ≤ reachBytes) = true := hsz0
  clear hsz0
  rw [MakeChecks.laidMetH_plain _ _ _ (by kernel_rfl)] at hL
  letI : Gv.Glob := Gv.worldGlob W
  haveI : Gv.Laid := ⟨Gv.all_int (P := Tryz.prog) hsh (g := 2) (t := 3) (zero := #[.int .i64 0]) (of_decide_eq_true (by kernel_rfl)) (by kernel_rfl) rfl (by kernel_rfl) (by kernel_rfl) Tryz.underlying3⟩
  have hP : laidMet Tryz.prog (("internal/strconv.uint64pow10", Lib.tabData .u64 Lib.pow10Tab) :: Rows.joinSaysRow.laid.drop 3) W := by
    rw [← pow10JoinSays]
    exact hL.tail.tail
  haveI : Gv.Nums := ⟨Gv.all_tab (Lib.tabIs_of_head (g := 5) (t := 339) (by kernel_rfl) (by kernel_rfl) Tryz.underlying339 Tryz.underlying260 (by kernel_rfl) (by kernel_rfl) hP)⟩
  haveI : Gv.Errs := ⟨fun w hw => let ⟨tp, p, e⟩ := laidErrSyntaxJoinSays hL; ⟨tp, p, Gv.all_var hw e⟩, fun w hw => let ⟨tp, p, e⟩ := laidErrRangeJoinSays hL; ⟨tp, p, Gv.all_var hw e⟩⟩
  have hW' := hW
  obtain ⟨p, q, hA0, hV, rfl, hfz, hnd⟩ := hW
  have hA : DataW.TrodAll enc Tryz.prog W 0 (fun _ => true) true Tryz.f11.params.toList args.toList ds p := hA0
  rw [Tryz.params11] at hA hval hsz
  obtain ⟨v0, vs0, d0, ds0, p0, q0, hargs, rfl, rfl, k0, r0⟩ := trodAll_cons hA
  obtain ⟨v1, vs1, d1, ds1, p1, q1, rfl, rfl, rfl, k1, r1⟩ := trodAll_cons r0
  obtain ⟨v2, vs2, d2, ds2, p2, q2, rfl, rfl, rfl, k2, r2⟩ := trodAll_cons r1
  obtain ⟨rfl, rfl, rfl⟩ := trodAll_nil r2
  obtain rfl : args = #[v0, v1, v2] := by cases args; simp_all
  obtain ⟨rfl, rfl⟩ := trodVars_none hV
  have lt0 : ∀ x ∈ p0, x.block < W.heap.size := by obtain ⟨m, hm⟩ := k0; exact DataW.trod_lt m _ _ _ hm
  have lt1 : ∀ x ∈ p1, x.block < W.heap.size := by obtain ⟨m, hm⟩ := k1; exact DataW.trod_lt m _ _ _ hm
  have lt2 : ∀ x ∈ p2, x.block < W.heap.size := by obtain ⟨m, hm⟩ := k2; exact DataW.trod_lt m _ _ _ hm
  have wt0 : ∀ n ∈ d0.weights Tryz.prog 3, n ≤ reachBytes := fun n hn => by simpa using List.all_eq_true.1 hsz n (DataW.weights_mem_each (j := 0) rfl rfl n hn)
  have wt1 : ∀ n ∈ d1.weights Tryz.prog 48, n ≤ reachBytes := fun n hn => by simpa using List.all_eq_true.1 hsz n (DataW.weights_mem_each (j := 1) rfl rfl n hn)
  have wt2 : ∀ n ∈ d2.weights Tryz.prog 80, n ≤ reachBytes := fun n hn => by simpa using List.all_eq_true.1 hsz n (DataW.weights_mem_each (j := 2) rfl rfl n hn)
  obtain ⟨a0, I0, g0⟩ := Gv.arg_int Tryz.underlying3 (hval 0 3 v0 rfl rfl) (Gv.opn_int Tryz.underlying3) (fun _ => rfl) k0 wt0
  obtain ⟨a1, I1, g1⟩ := Gv.arg_struct Tryz.underlying48 (hval 1 48 v1 rfl rfl) Gv.opn_cmdE k1 wt1
  obtain ⟨a2, I2, g2⟩ := Gv.arg_slice Tryz.underlying80 (hval 2 80 v2 rfl rfl) (Gv.opn_slice (k := 1) Tryz.underlying80 (by kernel_rfl) (by omega) (Gv.opn_slice (k := 1) Tryz.underlying29 (by kernel_rfl) (by omega) (Gv.opn_byte Tryz.underlying5))) k2 wt2
  clear hA0 hval0
  refine (Gv.law_calls Gv.jSaysT_ok W (Gv.worldGlob_le W) rfl (Gv.vr_cons g0 (Gv.vr_cons g1 (Gv.vr_cons g2 Gv.vr_nil))) ⟨a0, a1, a2, rfl, (fun b hb => Gv.len_bytes (by kernel_rfl) (I2.1 b hb).2), rfl⟩).mono fun e W' ⟨he, bel0⟩ => ?_
  have bel := bel0.below
  subst he
  exact ⟨_, rfl, _, _, _, [], _, [], hW', trodAll_mk1 (shut_bool Tryz.underlying4 _), (trodAll_cons_mk (Below.trod laidOutJoinSays (by kernel_rfl) (of_decide_eq_true (by kernel_rfl)) k0 bel lt0) (trodAll_cons_mk (Below.trod laidOutJoinSays (by kernel_rfl) (of_decide_eq_true (by kernel_rfl)) k1 bel lt1) (trodAll_cons_mk (Below.trod laidOutJoinSays (by kernel_rfl) (of_decide_eq_true (by kernel_rfl)) k2 bel lt2) trodAll_mk0))), rfl, bel.frame _, fun h => by cases h⟩

theorem and_t {a b : Bool} (h : a = true) (k : b = true) : (a && b) = true := by rw [h, k]; rfl
theorem fact0JoinSays : (Rows.joinSaysRow.wf (OpenSpec.ofChange Rows.joinSaysSpec)) = true := by kernel_rfl
theorem fact1JoinSays : (laidOutB Tryz.prog) = true := by kernel_rfl
theorem fact2JoinSays : (mapsRowed Tryz.prog) = true := by kernel_rfl
theorem fact3JoinSays : (Tryz.f11.params.all (Tryz.prog.readableRec ·)) = true := by kernel_rfl
theorem fact4JoinSays : (namedTie Tryz.prog Rows.joinSaysRow.named Rows.joinSaysSpec.vars) = true := by kernel_rfl
theorem fact5JoinSays : ((Rows.joinSaysRow.stops == [])) = true := by kernel_rfl
theorem fact6JoinSays : ((Tryz.prog.stops == [])) = true := by kernel_rfl
theorem fact7JoinSays : ((Rows.joinSaysRow.knobs == [])) = true := by kernel_rfl
theorem fact8JoinSays : ((Tryz.prog.stopKnobs == [])) = true := by kernel_rfl
theorem fact9JoinSays : ((Rows.joinSaysRow.inPlace == Tryz.prog.inPlace 11)) = true := by kernel_rfl
theorem fact10JoinSays : ((Rows.joinSaysRow.unfollowed == Tryz.prog.unfollowed 11)) = true := by kernel_rfl
theorem fact11JoinSays : ((Rows.joinSaysRow.recurses == Tryz.prog.recurses 11)) = true := by kernel_rfl
theorem fact12JoinSays : ((Rows.joinSaysRow.named == Tryz.prog.varsNamed 11)) = true := by kernel_rfl
theorem fact13JoinSays : ((Rows.joinSaysRow.maps == (Tryz.f11.params.toList ++ Rows.joinSaysSpec.plain.varTypes Tryz.prog).any (Tryz.prog.mapsRec ·))) = true := by kernel_rfl
theorem fact14JoinSays : ((Rows.joinSaysRow.ifaces == (Tryz.f11.params.toList ++ Rows.joinSaysSpec.plain.varTypes Tryz.prog).any (Tryz.prog.ifacesRec ·))) = true := by kernel_rfl
theorem fact15JoinSays : ((Rows.joinSaysRow.mapsOut == Tryz.prog.mapsAmong Tryz.f11.resultTypes.toList)) = true := by kernel_rfl
theorem fact16JoinSays : ((Rows.joinSaysRow.loops == (Tryz.f11.params.toList ++ Rows.joinSaysSpec.plain.varTypes Tryz.prog).any (Tryz.prog.loopsFrom ·))) = true := by kernel_rfl
theorem fact17JoinSays : ((Rows.joinSaysRow.wideKeys == (Tryz.f11.params.toList ++ Rows.joinSaysSpec.plain.varTypes Tryz.prog ++ Tryz.f11.resultTypes.toList).any (Tryz.prog.wideKeysFrom ·))) = true := by kernel_rfl
theorem fact18JoinSays : (Rows.joinSaysSpec.vars.all (Tryz.prog.varReadable ·)) = true := by kernel_rfl
theorem fact19JoinSays : (Tryz.f11.resultTypes.all (fun t => Tryz.prog.readableRec t && decide (t < Tryz.prog.types.size))) = true := by kernel_rfl
theorem fact20JoinSays : ((Rows.joinSaysRow.ifacesOut == Tryz.f11.resultTypes.toList.any (Tryz.prog.ifacesRec ·))) = true := by kernel_rfl
theorem fact21JoinSays : ((Rows.joinSaysRow.loopsOut == Tryz.f11.resultTypes.toList.any (Tryz.prog.loopsFrom ·))) = true := by kernel_rfl
theorem fact22JoinSays : ((Rows.joinSaysRow.plainKeys == Tryz.prog.plainKeys)) = true := by kernel_rfl
theorem fact23JoinSays : (Rows.joinSaysRow.shortTexts.isNone) = true := by kernel_rfl
theorem fact24JoinSays : (Tryz.prog.stopsHeard) = true := by kernel_rfl
theorem fact25JoinSays : (Tryz.prog.mayEnter) = true := by kernel_rfl
theorem fact26JoinSays : ((Rows.joinSaysRow.lifted == Tryz.prog.liftsFinal)) = true := by kernel_rfl
theorem fact27JoinSays : ((Tryz.prog.make == some Rows.joinSaysRow.make)) = true := by kernel_rfl
theorem fact28JoinSays : ((Rows.joinSaysRow.kinds == (if Rows.joinSaysRow.domain.isEmpty then [] else Tryz.f11.params.toList.map fun t => match Tryz.prog.underlying t with | some (.int k) => some k | _ => none))) = true := by kernel_rfl
theorem fact29JoinSays : ((Rows.joinSaysRow.pinned == Rows.joinSaysRow.pinnedBy)) = true := by kernel_rfl
theorem fact30JoinSays : ((Rows.joinSaysRow.veiled == (Tryz.f11.params.toList ++ Rows.joinSaysSpec.plain.varTypes Tryz.prog ++ Tryz.f11.resultTypes.toList).any (Tryz.prog.veiledRec ·))) = true := by kernel_rfl
theorem fact31JoinSays : (Rows.joinSaysRow.veiledFits Tryz.prog Tryz.f11.params.toList (Tryz.f11.params.toList ++ Rows.joinSaysSpec.plain.varTypes Tryz.prog ++ Tryz.f11.resultTypes.toList)) = true := by kernel_rfl
set_option maxRecDepth 100000 in
theorem closedJoinSays : joinedFacts Tryz.prog 11 Tryz.f11 Rows.joinSaysSpec Rows.joinSaysRow = true := by
  unfold joinedFacts
  exact (and_t (and_t (and_t (and_t (and_t (and_t (and_t (and_t (and_t (and_t (and_t (and_t (and_t (and_t (and_t (and_t (and_t (and_t (and_t (and_t (and_t (and_t (and_t (and_t (and_t (and_t (and_t (and_t (and_t (and_t (and_t fact0JoinSays fact1JoinSays) fact2JoinSays) fact3JoinSays) fact4JoinSays) fact5JoinSays) fact6JoinSays) fact7JoinSays) fact8JoinSays) fact9JoinSays) fact10JoinSays) fact11JoinSays) fact12JoinSays) fact13JoinSays) fact14JoinSays) fact15JoinSays) fact16JoinSays) fact17JoinSays) fact18JoinSays) fact19JoinSays) fact20JoinSays) fact21JoinSays) fact22JoinSays) fact23JoinSays) fact24JoinSays) fact25JoinSays) fact26JoinSays) fact27JoinSays) fact28JoinSays) fact29JoinSays) fact30JoinSays) fact31JoinSays)
theorem fNamedJoinSays : Tryz.prog.funcNamed "gangsaw/gangsawlaw.JoinSays" = some 11 := by kernel_rfl
theorem instJoinSays : Tryz.f11.isInstance Tryz.prog Rows.joinSaysRow.origin Rows.joinSaysRow.targs := of_decide_eq_true (by kernel_rfl)
theorem wrapJoinSays : Tryz.f11.isWrapper Tryz.prog Rows.joinSaysRow.wrapper Rows.joinSaysRow.mainSum := by unfold Func.isWrapper; first | (rw [if_pos (by decide +kernel)]; kernel_rfl) | (rw [if_neg (by decide +kernel)]; exact ⟨rfl, rfl⟩)
theorem overJoinSays : Rows.joinSaysRow.holds Tryz.pinned (OpenSpec.ofChange Rows.joinSaysSpec) :=
  OpenClaim.holds_of_wide 11 Tryz.f11 rfl rfl rfl rfl rfl rfl rfl ⟨rfl, rfl, rfl, rfl, rfl⟩ rfl rfl rfl rfl rfl fNamedJoinSays Tryz.func11 closedJoinSays instJoinSays wrapJoinSays
    (fun os started H enc _ => liftedJoinSays os started H enc)

theorem byTextJoinSays : Rows.joinSaysRow.wfByText (OpenSpec.ofChange Rows.joinSaysSpec) = true := by kernel_rfl
theorem mainJoinSays : Tryz.prog.mainIs = some (((true, "b426d36aee87a7ddd55f45017cccf55016e8ded7f58b3cb4097dc16445e1fe35") : Bool × String).1, ((true, "b426d36aee87a7ddd55f45017cccf55016e8ded7f58b3cb4097dc16445e1fe35") : Bool × String).2.toList) := by kernel_rfl
theorem looksJoinSays : true = Tryz.prog.looks [] := by kernel_rfl
theorem standJoinSays : ([3, 48, 80].all fun u => !Tryz.prog.wantsStandIn u) = true := by kernel_rfl
theorem goesJoinSays : false = Rows.joinSaysRow.goesBy Tryz.prog := by kernel_rfl
theorem provedJoinSays : Rows.JoinSaysCardSaid :=
  Claim7.holds_tied_plain_at .later [] [.data, .data, .data, .data, .sentinel, .sentinel, .pinned] true (true, "b426d36aee87a7ddd55f45017cccf55016e8ded7f58b3cb4097dc16445e1fe35") true
    overJoinSays (fun _ h => by cases h) byTextJoinSays (fun _ h => by cases h) joinSays_row_tie rfl ⟨rfl, rfl⟩ mainJoinSays rfl
    (fun f fn hf hfn => by
      obtain rfl : f = 11 := Option.some.inj (fNamedJoinSays.symm.trans hf) |>.symm
      obtain rfl : fn = Tryz.f11 := (Option.some.inj (Tryz.func11.symm.trans hfn)).symm
      exact ⟨looksJoinSays, fun j t ht => by
        rw [Tryz.params11] at ht
        have hm : t ∈ [3, 48, 80] := by simpa using Array.mem_of_getElem? ht
        exact (show Tryz.prog.wantsStandIn t = false by simpa using List.all_eq_true.1 standJoinSays t hm)⟩)
    goesJoinSays

end Go.Proofs.YtffljdmmambdjabGreatDoor

