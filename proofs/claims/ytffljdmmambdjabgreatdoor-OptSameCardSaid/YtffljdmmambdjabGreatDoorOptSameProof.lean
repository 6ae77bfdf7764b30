/- OptSame, as it is given: for every input the law returns true, and each argument reads as it did; the row's condition is what the card ties: the listed variables hold what the program's text lays. -/
import Derived.Test.YtffljdmmambdjabGreatDoorF3
import Derived.Test.YtffljdmmambdjabGreatDoorCards
import Derived.Test.YtffljdmmambdjabGreatDoorTie
import Derived.ProofKit
import Derived.OpenShut
import Derived.ChangeOld
import Derived.Below
import Derived.SizedLaws
import Derived.LaidMore
import Derived.Lay
import Derived.SevenTiedAt
import Derived.Stop.LaidErr
import Derived.LaidLaws
set_option linter.unusedVariables false
set_option linter.unusedSimpArgs false
namespace Go.Proofs.YtffljdmmambdjabGreatDoor
open Go.Proofs Go.RowKit
open Go.ChangeShapes Go.WideShapes Go.ChangeAt

theorem pow10OptSame : Rows.laid_internal_strconv_uint64pow10 (H := Unit) = Lib.tabData .u64 Lib.pow10Tab := by kernel_rfl
theorem starOptSame : "*" ++ "errors.errorString" = "*errors.errorString" := by decide
theorem rowErrOptSame (u : TypeId) (h : Tryz.prog.typeName? 3 u = some "*errors.errorString") : u = 343 :=
  typeName_ptr_named (nm := "errors.errorString") (by rw [starOptSame]; kernel_rfl) (by kernel_rfl) (by decide) u (by rw [starOptSame]; exact h)
theorem gErrSyntaxOptSame : Tryz.prog.globalNamed "strconv.ErrSyntax" = some 3 := by kernel_rfl
theorem tErrSyntaxOptSame : (Tryz.prog.globals[3]?).map (·.type) = some 84 := by kernel_rfl
theorem laidErrSyntaxOptSame {W : World} (h : laidMet Tryz.prog Rows.optSameRow.laid W) : ∃ tp p, W.var? Tryz.prog "strconv.ErrSyntax" = some #[.iface tp p] := by
  obtain ⟨a, s, hv, -, -, -⟩ := laid_sentinel (h.tail.tail.tail.tail.tail) gErrSyntaxOptSame tErrSyntaxOptSame Tryz.underlying84 rowErrOptSame Tryz.underlying343 Tryz.underlying345 rfl rfl Tryz.underlying9 (show Tryz.prog.cellsOf 345 = 1 by kernel_rfl) (show Tryz.prog.cellsOf 9 = 1 by kernel_rfl)
  exact ⟨_, _, hv⟩
theorem gErrRangeOptSame : Tryz.prog.globalNamed "strconv.ErrRange" = some 4 := by kernel_rfl
theorem tErrRangeOptSame : (Tryz.prog.globals[4]?).map (·.type) = some 84 := by kernel_rfl
theorem laidErrRangeOptSame {W : World} (h : laidMet Tryz.prog Rows.optSameRow.laid W) : ∃ tp p, W.var? Tryz.prog "strconv.ErrRange" = some #[.iface tp p] := by
  obtain ⟨a, s, hv, -, -, -⟩ := laid_sentinel (h.tail.tail.tail.tail) gErrRangeOptSame tErrRangeOptSame Tryz.underlying84 rowErrOptSame Tryz.underlying343 Tryz.underlying345 rfl rfl Tryz.underlying9 (show Tryz.prog.cellsOf 345 = 1 by kernel_rfl) (show Tryz.prog.cellsOf 9 = 1 by kernel_rfl)
  exact ⟨_, _, hv⟩
theorem ownOptSame : ownKnob Tryz.prog.godebug = none := by kernel_rfl
theorem laidOutOptSame : laidOutB Tryz.prog = true := by kernel_rfl
set_option maxRecDepth 100000 in
theorem liftedOptSame (os : Os) (started : os.Started) (H : Type) (enc : TypeId × Value → H) :
    ReturnsInHanded {} Tryz.checked os 12 .any (fun w args => (Rows.optSameSpec.pre enc Tryz.prog Tryz.f12 Rows.optSameRow.domain false w args ∧ laidMetH Tryz.prog Rows.optSameRow.laid w) ∧ sizedMet enc Tryz.prog Tryz.f12 (OpenSpec.ofChange Rows.optSameSpec) false w args) (Rows.optSameSpec.post enc Tryz.prog Tryz.f12 false true false false) := by
  refine Gv.returns_both (C := Tryz.checked) (X := fun w _ => laidMetH Tryz.prog Rows.optSameRow.laid w) (fun _ _ _ hh h => h.of_heap hh) ownOptSame started (by kernel_rfl) Tryz.func12
    (ChangeSpec.witness_shaped (enc := enc) (C := Tryz.checked) (os := os) (X := fun w _ => laidMetH Tryz.prog Rows.optSameRow.laid w) false (World.laidAll Tryz.prog os Rows.optSameRow.laid) #[(.agg #[(.slice none 0 0), (.slice none 0 0), (.string ⟨#[]⟩)]), (.int .i64 0), (.slice none 0 0)] 8 (World.laidAll_os _ _ _)
      (World.shaped_of_ZipB (by kernel_rfl) (by kernel_rfl)) (by kernel_rfl) (by kernel_rfl) (by kernel_rfl)
      (by rw [MakeChecks.laidMetH_plain _ _ _ (by kernel_rfl)]; exact laidMet_laidAll _ (by kernel_rfl) (by kernel_rfl))) ?_
  intro W base args ds gs before hval0 hW hsz0 hL hsh
  have hval : ∀ (j : Nat) t v, Tryz.f12.params[j]? = some t → args[j]? = some v → Value.okWide Tryz.prog W .any base t v := hval0
  have hsz : (DataW.weightsEach Tryz.prog (Tryz.f12.params.toList ++ []) (ds ++ gs)).all (· ≤ reachBytes) = true := hsz0
  clear hsz0
  rw [MakeChecks.laidMetH_plain _ _ _ (by kernel_rfl)] at hL
  letI : Gv.Glob := Gv.worldGlob W
  haveI : Gv.Laid := ⟨Gv.all_int (P := Tryz.prog) hsh (g := 2) (t := 3) (zero := #[.int .i64 0]) (of_decide_eq_true (by kernel_rfl)) (by kernel_rfl) rfl (by kernel_rfl) (by kernel_rfl) Tryz.underlying3⟩
  have hP : laidMet Tryz.prog (("internal/strconv.uint64pow10", Lib.tabData .u64 Lib.pow10Tab) :: Rows.optSameRow.laid.drop 3) W := by
    rw [← pow10OptSame]
    exact hL.tail.tail
  haveI : Gv.Nums := ⟨Gv.all_tab (Lib.tabIs_of_head (g := 5) (t := 339) (by kernel_rfl) (by kernel_rfl) Tryz.underlying339 Tryz.underlying260 (by kernel_rfl) (by kernel_rfl) hP)⟩
  haveI : Gv.Errs := ⟨fun w hw => let ⟨tp, p, e⟩ := laidErrSyntaxOptSame hL; ⟨tp, p, Gv.all_var hw e⟩, fun w hw => let ⟨tp, p, e⟩ := laidErrRangeOptSame hL; ⟨tp, p, Gv.all_var hw e⟩⟩
  have hW' := hW
  obtain ⟨p, q, hA0, hV, rfl, hfz, hnd⟩ := hW
  have hA : DataW.TrodAll enc Tryz.prog W 0 (fun _ => true) true Tryz.f12.params.toList args.toList ds p := hA0
  rw [Tryz.params12] at hA hval hsz
  obtain ⟨v0, vs0, d0, ds0, p0, q0, hargs, rfl, rfl, k0, r0⟩ := trodAll_cons hA
  obtain ⟨v1, vs1, d1, ds1, p1, q1, rfl, rfl, rfl, k1, r1⟩ := trodAll_cons r0
  obtain ⟨v2, vs2, d2, ds2, p2, q2, rfl, rfl, rfl, k2, r2⟩ := trodAll_cons r1
  obtain ⟨rfl, rfl, rfl⟩ := trodAll_nil r2
  obtain rfl : args = #[v0, v1, v2] := by cases args; simp_all
  obtain ⟨rfl, rfl⟩ := trodVars_none hV
  have lt0 : ∀ x ∈ p0, x.block < W.heap.size := by obtain ⟨m, hm⟩ := k0; exact DataW.trod_lt m _ _ _ hm
  have lt1 : ∀ x ∈ p1, x.block < W.heap.size := by obtain ⟨m, hm⟩ := k1; exact DataW.trod_lt m _ _ _ hm
  have lt2 : ∀ x ∈ p2, x.block < W.heap.size := by obtain ⟨m, hm⟩ := k2; exact DataW.trod_lt m _ _ _ hm
  have wt0 : ∀ n ∈ d0.weights Tryz.prog 27, n ≤ reachBytes := fun n hn => by simpa using List.all_eq_true.1 hsz n (DataW.weights_mem_each (j := 0) rfl rfl n hn)
  have wt1 : ∀ n ∈ d1.weights Tryz.prog 3, n ≤ reachBytes := fun n hn => by simpa using List.all_eq_true.1 hsz n (DataW.weights_mem_each (j := 1) rfl rfl n hn)
  have wt2 : ∀ n ∈ d2.weights Tryz.prog 22, n ≤ reachBytes := fun n hn => by simpa using List.all_eq_true.1 hsz n (DataW.weights_mem_each (j := 2) rfl rfl n hn)
  obtain ⟨a0, I0, g0⟩ := Gv.arg_struct Tryz.underlying27 (hval 0 27 v0 rfl rfl) Gv.opn_line k0 wt0
  obtain ⟨a1, I1, g1⟩ := Gv.arg_int Tryz.underlying3 (hval 1 3 v1 rfl rfl) (Gv.opn_int Tryz.underlying3) (fun _ => rfl) k1 wt1
  obtain ⟨a2, I2, g2⟩ := Gv.arg_slice Tryz.underlying22 (hval 2 22 v2 rfl rfl) (Gv.opn_slice (k := 2) Tryz.underlying22 (by kernel_rfl) (by omega) Gv.opn_file) k2 wt2
  clear hA0 hval0
  refine (Gv.law_calls Gv.oSameT_ok W (Gv.worldGlob_le W) rfl (Gv.vr_cons g0 (Gv.vr_cons g1 (Gv.vr_cons g2 Gv.vr_nil))) ⟨a0, a1, a2, rfl, rfl⟩).mono fun e W' ⟨he, bel0⟩ => ?_
  have bel := bel0.below
  subst he
  exact ⟨_, rfl, _, _, _, [], _, [], hW', trodAll_mk1 (shut_bool Tryz.underlying4 _), (trodAll_cons_mk (Below.trod laidOutOptSame (by kernel_rfl) (of_decide_eq_true (by kernel_rfl)) k0 bel lt0) (trodAll_cons_mk (Below.trod laidOutOptSame (by kernel_rfl) (of_decide_eq_true (by kernel_rfl)) k1 bel lt1) (trodAll_cons_mk (Below.trod laidOutOptSame (by kernel_rfl) (of_decide_eq_true (by kernel_rfl)) k2 bel lt2) trodAll_mk0))), rfl, bel.frame _, fun h => by cases h⟩

theorem and_t {a b : Bool} (h : a = true) (k : b = true) : (a && b) = true := by rw [h, k]; rfl
theorem fact0OptSame : (Rows.optSameRow.wf (OpenSpec.ofChange Rows.optSameSpec)) = true := by kernel_rfl
theorem fact1OptSame : (laidOutB Tryz.prog) = true := by kernel_rfl
theorem fact2OptSame : (mapsRowed Tryz.prog) = true := by kernel_rfl
theorem fact3OptSame : (Tryz.f12.params.all (Tryz.prog.readableRec ·)) = true := by kernel_rfl
theorem fact4OptSame : (namedTie Tryz.prog Rows.optSameRow.named Rows.optSameSpec.vars) = true := by kernel_rfl
theorem fact5OptSame : ((Rows.optSameRow.stops == [])) = true := by kernel_rfl
theorem fact6OptSame : ((Tryz.prog.stops == [])) = true := by kernel_rfl
theorem fact7OptSame : ((Rows.optSameRow.knobs == [])) = true := by kernel_rfl
theorem fact8OptSame : ((Tryz.prog.stopKnobs == [])) = true := by kernel_rfl
theorem fact9OptSame : ((Rows.optSameRow.inPlace == Tryz.prog.inPlace 12)) = true := by kernel_rfl
theorem fact10OptSame : ((Rows.optSameRow.unfollowed == Tryz.prog.unfollowed 12)) = true := by kernel_rfl
theorem fact11OptSame : ((Rows.optSameRow.recurses == Tryz.prog.recurses 12)) = true := by kernel_rfl
theorem fact12OptSame : ((Rows.optSameRow.named == Tryz.prog.varsNamed 12)) = true := by kernel_rfl
theorem fact13OptSame : ((Rows.optSameRow.maps == (Tryz.f12.params.toList ++ Rows.optSameSpec.plain.varTypes Tryz.prog).any (Tryz.prog.mapsRec ·))) = true := by kernel_rfl
theorem fact14OptSame : ((Rows.optSameRow.ifaces == (Tryz.f12.params.toList ++ Rows.optSameSpec.plain.varTypes Tryz.prog).any (Tryz.prog.ifacesRec ·))) = true := by kernel_rfl
theorem fact15OptSame : ((Rows.optSameRow.mapsOut == Tryz.prog.mapsAmong Tryz.f12.resultTypes.toList)) = true := by kernel_rfl
theorem fact16OptSame : ((Rows.optSameRow.loops == (Tryz.f12.params.toList ++ Rows.optSameSpec.plain.varTypes Tryz.prog).any (Tryz.prog.loopsFrom ·))) = true := by kernel_rfl
theorem fact17OptSame : ((Rows.optSameRow.wideKeys == (Tryz.f12.params.toList ++ Rows.optSameSpec.plain.varTypes Tryz.prog ++ Tryz.f12.resultTypes.toList).any (Tryz.prog.wideKeysFrom ·))) = true := by kernel_rfl
theorem fact18OptSame : (Rows.optSameSpec.vars.all (Tryz.prog.varReadable ·)) = true := by kernel_rfl
theorem fact19OptSame : (Tryz.f12.resultTypes.all (fun t => Tryz.prog.readableRec t && decide (t < Tryz.prog.types.size))) = true := by kernel_rfl
theorem fact20OptSame : ((Rows.optSameRow.ifacesOut == Tryz.f12.resultTypes.toList.any (Tryz.prog.ifacesRec ·))) = true := by kernel_rfl
theorem fact21OptSame : ((Rows.optSameRow.loopsOut == Tryz.f12.resultTypes.toList.any (Tryz.prog.loopsFrom ·))) = true := by kernel_rfl
theorem fact22OptSame : ((Rows.optSameRow.plainKeys == Tryz.prog.plainKeys)) = true := by kernel_rfl
theorem fact23OptSame : (Rows.optSameRow.shortTexts.isNone) = true := by kernel_rfl
theorem fact24OptSame : (Tryz.prog.stopsHeard) = true := by kernel_rfl
theorem fact25OptSame : (Tryz.prog.mayEnter) = true := by kernel_rfl
theorem fact26OptSame : ((Rows.optSameRow.lifted == Tryz.prog.liftsFinal)) = true := by kernel_rfl
theorem fact27OptSame : ((Tryz.prog.make == some Rows.optSameRow.make)) = true := by kernel_rfl
theorem fact28OptSame : ((Rows.optSameRow.kinds == (if Rows.optSameRow.domain.isEmpty then [] else Tryz.f12.params.toList.map fun t => match Tryz.prog.underlying t with | some (.int k) => some k | _ => none))) = true := by kernel_rfl
theorem fact29OptSame : ((Rows.optSameRow.pinned == Rows.optSameRow.pinnedBy)) = true := by kernel_rfl
theorem fact30OptSame : ((Rows.optSameRow.veiled == (Tryz.f12.params.toList ++ Rows.optSameSpec.plain.varTypes Tryz.prog ++ Tryz.f12.resultTypes.toList).any (Tryz.prog.veiledRec ·))) = true := by kernel_rfl
theorem fact31OptSame : (Rows.optSameRow.veiledFits Tryz.prog Tryz.f12.params.toList (Tryz.f12.params.toList ++ Rows.optSameSpec.plain.varTypes Tryz.prog ++ Tryz.f12.resultTypes.toList)) = true := by kernel_rfl
set_option maxRecDepth 100000 in
theorem closedOptSame : joinedFacts Tryz.prog 12 Tryz.f12 Rows.optSameSpec Rows.optSameRow = true := by
  unfold joinedFacts
  exact (and_t (and_t (and_t (and_t (and_t (and_t (and_t (and_t (and_t (and_t (and_t (and_t (and_t (and_t (and_t (and_t (and_t (and_t (and_t (and_t (and_t (and_t (and_t (and_t (and_t (and_t (and_t (and_t (and_t (and_t (and_t fact0OptSame fact1OptSame) fact2OptSame) fact3OptSame) fact4OptSame) fact5OptSame) fact6OptSame) fact7OptSame) fact8OptSame) fact9OptSame) fact10OptSame) fact11OptSame) fact12OptSame) fact13OptSame) fact14OptSame) fact15OptSame) fact16OptSame) fact17OptSame) fact18OptSame) fact19OptSame) fact20OptSame) fact21OptSame) fact22OptSame) fact23OptSame) fact24OptSame) fact25OptSame) fact26OptSame) fact27OptSame) fact28OptSame) fact29OptSame) fact30OptSame) fact31OptSame)
theorem fNamedOptSame : Tryz.prog.funcNamed "gangsaw/gangsawlaw.OptSame" = some 12 := by kernel_rfl
theorem instOptSame : Tryz.f12.isInstance Tryz.prog Rows.optSameRow.origin Rows.optSameRow.targs := of_decide_eq_true (by kernel_rfl)
theorem wrapOptSame : Tryz.f12.isWrapper Tryz.prog Rows.optSameRow.wrapper Rows.optSameRow.mainSum := by unfold Func.isWrapper; first | (rw [if_pos (by decide +kernel)]; kernel_rfl) | (rw [if_neg (by decide +kernel)]; exact ⟨rfl, rfl⟩)
theorem overOptSame : Rows.optSameRow.holds Tryz.pinned (OpenSpec.ofChange Rows.optSameSpec) :=
  OpenClaim.holds_of_wide 12 Tryz.f12 rfl rfl rfl rfl rfl rfl rfl ⟨rfl, rfl, rfl, rfl, rfl⟩ rfl rfl rfl rfl rfl fNamedOptSame Tryz.func12 closedOptSame instOptSame wrapOptSame
    (fun os started H enc _ => liftedOptSame os started H enc)

theorem byTextOptSame : Rows.optSameRow.wfByText (OpenSpec.ofChange Rows.optSameSpec) = true := by kernel_rfl
theorem mainOptSame : Tryz.prog.mainIs = some (((true, "b426d36aee87a7ddd55f45017cccf55016e8ded7f58b3cb4097dc16445e1fe35") : Bool × String).1, ((true, "b426d36aee87a7ddd55f45017cccf55016e8ded7f58b3cb4097dc16445e1fe35") : Bool × String).2.toList) := by kernel_rfl
theorem looksOptSame : true = Tryz.prog.looks [] := by kernel_rfl
theorem standOptSame : ([27, 3, 22].all fun u => !Tryz.prog.wantsStandIn u) = true := by kernel_rfl
theorem goesOptSame : false = Rows.optSameRow.goesBy Tryz.prog := by kernel_rfl
theorem provedOptSame : Rows.OptSameCardSaid :=
  Claim7.holds_tied_plain_at .later [] [.data, .data, .data, .data, .sentinel, .sentinel, .pinned] true (true, "b426d36aee87a7ddd55f45017cccf55016e8ded7f58b3cb4097dc16445e1fe35") true
    overOptSame (fun _ h => by cases h) byTextOptSame (fun _ h => by cases h) optSame_row_tie rfl ⟨rfl, rfl⟩ mainOptSame rfl
    (fun f fn hf hfn => by
      obtain rfl : f = 12 := Option.some.inj (fNamedOptSame.symm.trans hf) |>.symm
      obtain rfl : fn = Tryz.f12 := (Option.some.inj (Tryz.func12.symm.trans hfn)).symm
      exact ⟨looksOptSame, fun j t ht => by
        rw [Tryz.params12] at ht
        have hm : t ∈ [27, 3, 22] := by simpa using Array.mem_of_getElem? ht
        exact (show Tryz.prog.wantsStandIn t = false by simpa using List.all_eq_true.1 standOptSame t hm)⟩)
    goesOptSame

end Go.Proofs.YtffljdmmambdjabGreatDoor

