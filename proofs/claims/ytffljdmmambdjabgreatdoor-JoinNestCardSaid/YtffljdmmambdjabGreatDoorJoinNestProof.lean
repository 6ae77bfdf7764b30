/- JoinNest, as it is given: for every input the law returns true, and each argument reads as it did; the row's condition is what the card ties: the listed variables hold what the program's text lays. -/
import Derived.Test.YtffljdmmambdjabGreatDoorF2
import Derived.Test.YtffljdmmambdjabGreatDoorCards
import Derived.Test.YtffljdmmambdjabGreatDoorTie
import Derived.ProofKit
import Derived.OpenShut
import Derived.ChangeOld
import Derived.Below
import Derived.SizedLaws
import Derived.LaidMore
import Derived.Lay
import Derived.SevenTiedAt
import Derived.Stop.LaidErr
import Derived.LaidLaws
set_option linter.unusedVariables false
set_option linter.unusedSimpArgs false
namespace Go.Proofs.YtffljdmmambdjabGreatDoor
open Go.Proofs Go.RowKit
open Go.ChangeShapes Go.WideShapes Go.ChangeAt

theorem pow10JoinNest : Rows.laid_internal_strconv_uint64pow10 (H := Unit) = Lib.tabData .u64 Lib.pow10Tab := by kernel_rfl
theorem starJoinNest : "*" ++ "errors.errorString" = "*errors.errorString" := by decide
theorem rowErrJoinNest (u : TypeId) (h : Tryz.prog.typeName? 3 u = some "*errors.errorString") : u = 343 :=
  typeName_ptr_named (nm := "errors.errorString") (by rw [starJoinNest]; kernel_rfl) (by kernel_rfl) (by decide) u (by rw [starJoinNest]; exact h)
theorem gErrSyntaxJoinNest : Tryz.prog.globalNamed "strconv.ErrSyntax" = some 3 := by kernel_rfl
theorem tErrSyntaxJoinNest : (Tryz.prog.globals[3]?).map (·.type) = some 84 := by kernel_rfl
theorem laidErrSyntaxJoinNest {W : World} (h : laidMet Tryz.prog Rows.joinNestRow.laid W) : ∃ tp p, W.var? Tryz.prog "strconv.ErrSyntax" = some #[.iface tp p] := by
  obtain ⟨a, s, hv, -, -, -⟩ := laid_sentinel (h.tail.tail.tail.tail.tail) gErrSyntaxJoinNest tErrSyntaxJoinNest Tryz.underlying84 rowErrJoinNest Tryz.underlying343 Tryz.underlying345 rfl rfl Tryz.underlying9 (show Tryz.prog.cellsOf 345 = 1 by kernel_rfl) (show Tryz.prog.cellsOf 9 = 1 by kernel_rfl)
  exact ⟨_, _, hv⟩
theorem gErrRangeJoinNest : Tryz.prog.globalNamed "strconv.ErrRange" = some 4 := by kernel_rfl
theorem tErrRangeJoinNest : (Tryz.prog.globals[4]?).map (·.type) = some 84 := by kernel_rfl
theorem laidErrRangeJoinNest {W : World} (h : laidMet Tryz.prog Rows.joinNestRow.laid W) : ∃ tp p, W.var? Tryz.prog "strconv.ErrRange" = some #[.iface tp p] := by
  obtain ⟨a, s, hv, -, -, -⟩ := laid_sentinel (h.tail.tail.tail.tail) gErrRangeJoinNest tErrRangeJoinNest Tryz.underlying84 rowErrJoinNest Tryz.underlying343 Tryz.underlying345 rfl rfl Tryz.underlying9 (show Tryz.prog.cellsOf 345 = 1 by kernel_rfl) (show Tryz.prog.cellsOf 9 = 1 by kernel_rfl)
  exact ⟨_, _, hv⟩
theorem ownJoinNest : ownKnob Tryz.prog.godebug = none := by kernel_rfl
theorem laidOutJoinNest : laidOutB Tryz.prog = true := by kernel_rfl
set_option maxRecDepth 100000 in
theorem liftedJoinNest (os : Os) (started : os.Started) (H : Type) (enc : TypeId × Value → H) :
    ReturnsInHanded {} Tryz.checked os 8 .any (fun w args => (Rows.joinNestSpec.pre enc Tryz.prog Tryz.f8 Rows.joinNestRow.domain false w args ∧ laidMetH Tryz.prog Rows.joinNestRow.laid w) ∧ sizedMet enc Tryz.prog Tryz.f8 (OpenSpec.ofChange Rows.joinNestSpec) false w args) (Rows.joinNestSpec.post enc Tryz.prog Tryz.f8 false true false false) := by
  refine Gv.returns_both (C := Tryz.checked) (X := fun w _ => laidMetH Tryz.prog Rows.joinNestRow.laid w) (fun _ _ _ hh h => h.of_heap hh) ownJoinNest started (by kernel_rfl) Tryz.func8
    (ChangeSpec.witness_shaped (enc := enc) (C := Tryz.checked) (os := os) (X := fun w _ => laidMetH Tryz.prog Rows.joinNestRow.laid w) false (World.laidAll Tryz.prog os Rows.joinNestRow.laid) #[(.int .i64 0), (.agg #[(.int .i64 0), (.string ⟨#[]⟩), (.int .i64 0)]), (.slice none 0 0), (.slice none 0 0), (.slice none 0 0)] 8 (World.laidAll_os _ _ _)
      (World.shaped_of_ZipB (by kernel_rfl) (by kernel_rfl)) (by kernel_rfl) (by kernel_rfl) (by kernel_rfl)
      (by rw [MakeChecks.laidMetH_plain _ _ _ (by kernel_rfl)]; exact laidMet_laidAll _ (by kernel_rfl) (by kernel_rfl))) ?_
  intro W base args ds gs before hval0 hW hsz0 hL hsh
  have hval : ∀ (j : Nat) t v, Tryz.f8.params[j]? = some t → args[j]? = some v → Value.okWide Tryz.prog W .any base t v := hval0
  have hsz : (DataW.weightsEach Tryz.prog (Tryz.f8.params.toList ++ []) (ds ++ gs)).all (· ≤ reachBytes) = true := hsz0
  clear hsz0
  rw [MakeChecks.laidMetH_plain _ _ _ (by kernel_rfl)] at hL
  letI : Gv.Glob := Gv.worldGlob W
  haveI : Gv.Laid := ⟨Gv.all_int (P := Tryz.prog) hsh (g := 2) (t := 3) (zero := #[.int .i64 0]) (of_decide_eq_true (by kernel_rfl)) (by kernel_rfl) rfl (by kernel_rfl) (by kernel_rfl) Tryz.underlying3⟩
  have hP : laidMet Tryz.prog (("internal/strconv.uint64pow10", Lib.tabData .u64 Lib.pow10Tab) :: Rows.joinNestRow.laid.drop 3) W := by
    rw [← pow10JoinNest]
    exact hL.tail.tail
  haveI : Gv.Nums := ⟨Gv.all_tab (Lib.tabIs_of_head (g := 5) (t := 339) (by kernel_rfl) (by kernel_rfl) Tryz.underlying339 Tryz.underlying260 (by kernel_rfl) (by kernel_rfl) hP)⟩
  haveI : Gv.Errs := ⟨fun w hw => let ⟨tp, p, e⟩ := laidErrSyntaxJoinNest hL; ⟨tp, p, Gv.all_var hw e⟩, fun w hw => let ⟨tp, p, e⟩ := laidErrRangeJoinNest hL; ⟨tp, p, Gv.all_var hw e⟩⟩
  have hW' := hW
  obtain ⟨p, q, hA0, hV, rfl, hfz, hnd⟩ := hW
  have hA : DataW.TrodAll enc Tryz.prog W 0 (fun _ => true) true Tryz.f8.params.toList args.toList ds p := hA0
  rw [Tryz.params8] at hA hval hsz
  obtain ⟨v0, vs0, d0, ds0, p0, q0, hargs, rfl, rfl, k0, r0⟩ := trodAll_cons hA
  obtain ⟨v1, vs1, d1, ds1, p1, q1, rfl, rfl, rfl, k1, r1⟩ := trodAll_cons r0
  obtain ⟨v2, vs2, d2, ds2, p2, q2, rfl, rfl, rfl, k2, r2⟩ := trodAll_cons r1
  obtain ⟨v3, vs3, d3, ds3, p3, q3, rfl, rfl, rfl, k3, r3⟩ := trodAll_cons r2
  obtain ⟨v4, vs4, d4, ds4, p4, q4, rfl, rfl, rfl, k4, r4⟩ := trodAll_cons r3
  obtain ⟨rfl, rfl, rfl⟩ := trodAll_nil r4
  obtain rfl : args = #[v0, v1, v2, v3, v4] := by cases args; simp_all
  obtain ⟨rfl, rfl⟩ := trodVars_none hV
  have lt0 : ∀ x ∈ p0, x.block < W.heap.size := by obtain ⟨m, hm⟩ := k0; exact DataW.trod_lt m _ _ _ hm
  have lt1 : ∀ x ∈ p1, x.block < W.heap.size := by obtain ⟨m, hm⟩ := k1; exact DataW.trod_lt m _ _ _ hm
  have lt2 : ∀ x ∈ p2, x.block < W.heap.size := by obtain ⟨m, hm⟩ := k2; exact DataW.trod_lt m _ _ _ hm
  have lt3 : ∀ x ∈ p3, x.block < W.heap.size := by obtain ⟨m, hm⟩ := k3; exact DataW.trod_lt m _ _ _ hm
  have lt4 : ∀ x ∈ p4, x.block < W.heap.size := by obtain ⟨m, hm⟩ := k4; exact DataW.trod_lt m _ _ _ hm
  have wt0 : ∀ n ∈ d0.weights Tryz.prog 3, n ≤ reachBytes := fun n hn => by simpa using List.all_eq_true.1 hsz n (DataW.weights_mem_each (j := 0) rfl rfl n hn)
  have wt1 : ∀ n ∈ d1.weights Tryz.prog 48, n ≤ reachBytes := fun n hn => by simpa using List.all_eq_true.1 hsz n (DataW.weights_mem_each (j := 1) rfl rfl n hn)
  have wt2 : ∀ n ∈ d2.weights Tryz.prog 29, n ≤ reachBytes := fun n hn => by simpa using List.all_eq_true.1 hsz n (DataW.weights_mem_each (j := 2) rfl rfl n hn)
  have wt3 : ∀ n ∈ d3.weights Tryz.prog 29, n ≤ reachBytes := fun n hn => by simpa using List.all_eq_true.1 hsz n (DataW.weights_mem_each (j := 3) rfl rfl n hn)
  have wt4 : ∀ n ∈ d4.weights Tryz.prog 29, n ≤ reachBytes := fun n hn => by simpa using List.all_eq_true.1 hsz n (DataW.weights_mem_each (j := 4) rfl rfl n hn)
  obtain ⟨a0, I0, g0⟩ := Gv.arg_int Tryz.underlying3 (hval 0 3 v0 rfl rfl) (Gv.opn_int Tryz.underlying3) (fun _ => rfl) k0 wt0
  obtain ⟨a1, I1, g1⟩ := Gv.arg_struct Tryz.underlying48 (hval 1 48 v1 rfl rfl) Gv.opn_cmdN k1 wt1
  obtain ⟨a2, I2, g2⟩ := Gv.arg_slice Tryz.underlying29 (hval 2 29 v2 rfl rfl) (Gv.opn_slice (k := 1) Tryz.underlying29 (by kernel_rfl) (by omega) (Gv.opn_byte Tryz.underlying5)) k2 wt2
  obtain ⟨a3, I3, g3⟩ := Gv.arg_slice Tryz.underlying29 (hval 3 29 v3 rfl rfl) (Gv.opn_slice (k := 1) Tryz.underlying29 (by kernel_rfl) (by omega) (Gv.opn_byte Tryz.underlying5)) k3 wt3
  obtain ⟨a4, I4, g4⟩ := Gv.arg_slice Tryz.underlying29 (hval 4 29 v4 rfl rfl) (Gv.opn_slice (k := 1) Tryz.underlying29 (by kernel_rfl) (by omega) (Gv.opn_byte Tryz.underlying5)) k4 wt4
  clear hA0 hval0
  refine (Gv.law_calls Gv.jNestT_ok W (Gv.worldGlob_le W) rfl (Gv.vr_cons g0 (Gv.vr_cons g1 (Gv.vr_cons g2 (Gv.vr_cons g3 (Gv.vr_cons g4 Gv.vr_nil))))) ⟨a0, a1, a2, a3, a4, rfl, ⟨Gv.len_bytes (by kernel_rfl) I2.2, Gv.len_bytes (by kernel_rfl) I3.2, Gv.len_bytes (by kernel_rfl) I4.2⟩, rfl⟩).mono fun e W' ⟨he, bel0⟩ => ?_
  have bel := bel0.below
  subst he
  exact ⟨_, rfl, _, _, _, [], _, [], hW', trodAll_mk1 (shut_bool Tryz.underlying4 _), (trodAll_cons_mk (Below.trod laidOutJoinNest (by kernel_rfl) (of_decide_eq_true (by kernel_rfl)) k0 bel lt0) (trodAll_cons_mk (Below.trod laidOutJoinNest (by kernel_rfl) (of_decide_eq_true (by kernel_rfl)) k1 bel lt1) (trodAll_cons_mk (Below.trod laidOutJoinNest (by kernel_rfl) (of_decide_eq_true (by kernel_rfl)) k2 bel lt2) (trodAll_cons_mk (Below.trod laidOutJoinNest (by kernel_rfl) (of_decide_eq_true (by kernel_rfl)) k3 bel lt3) (trodAll_cons_mk (Below.trod laidOutJoinNest (by kernel_rfl) (of_decide_eq_true (by kernel_rfl)) k4 bel lt4) trodAll_mk0))))), rfl, bel.frame _, fun h => by cases h⟩

theorem and_t {a b : Bool} (h : a = true) (k : b = true) : (a && b) = true := by rw [h, k]; rfl
theorem fact0JoinNest : (Rows.joinNestRow.wf (OpenSpec.ofChange Rows.joinNestSpec)) = true := by kernel_rfl
theorem fact1JoinNest : (laidOutB Tryz.prog) = true := by kernel_rfl
theorem fact2JoinNest : (mapsRowed Tryz.prog) = true := by kernel_rfl
theorem fact3JoinNest : (Tryz.f8.params.all (Tryz.prog.readableRec ·)) = true := by kernel_rfl
theorem fact4JoinNest : (namedTie Tryz.prog Rows.joinNestRow.named Rows.joinNestSpec.vars) = true := by kernel_rfl
theorem fact5JoinNest : ((Rows.joinNestRow.stops == [])) = true := by kernel_rfl
theorem fact6JoinNest : ((Tryz.prog.stops == [])) = true := by kernel_rfl
theorem fact7JoinNest : ((Rows.joinNestRow.knobs == [])) = true := by kernel_rfl
theorem fact8JoinNest : ((Tryz.prog.stopKnobs == [])) = true := by kernel_rfl
theorem fact9JoinNest : ((Rows.joinNestRow.inPlace == Tryz.prog.inPlace 8)) = true := by kernel_rfl
theorem fact10JoinNest : ((Rows.joinNestRow.unfollowed == Tryz.prog.unfollowed 8)) = true := by kernel_rfl
theorem fact11JoinNest : ((Rows.joinNestRow.recurses == Tryz.prog.recurses 8)) = true := by kernel_rfl
theorem fact12JoinNest : ((Rows.joinNestRow.named == Tryz.prog.varsNamed 8)) = true := by kernel_rfl
theorem fact13JoinNest : ((Rows.joinNestRow.maps == (Tryz.f8.params.toList ++ Rows.joinNestSpec.plain.varTypes Tryz.prog).any (Tryz.prog.mapsRec ·))) = true := by kernel_rfl
theorem fact14JoinNest : ((Rows.joinNestRow.ifaces == (Tryz.f8.params.toList ++ Rows.joinNestSpec.plain.varTypes Tryz.prog).any (Tryz.prog.ifacesRec ·))) = true := by kernel_rfl
theorem fact15JoinNest : ((Rows.joinNestRow.mapsOut == Tryz.prog.mapsAmong Tryz.f8.resultTypes.toList)) = true := by kernel_rfl
theorem fact16JoinNest : ((Rows.joinNestRow.loops == (Tryz.f8.params.toList ++ Rows.joinNestSpec.plain.varTypes Tryz.prog).any (Tryz.prog.loopsFrom ·))) = true := by kernel_rfl
theorem fact17JoinNest : ((Rows.joinNestRow.wideKeys == (Tryz.f8.params.toList ++ Rows.joinNestSpec.plain.varTypes Tryz.prog ++ Tryz.f8.resultTypes.toList).any (Tryz.prog.wideKeysFrom ·))) = true := by kernel_rfl
theorem fact18JoinNest : (Rows.joinNestSpec.vars.all (Tryz.prog.varReadable ·)) = true := by kernel_rfl
theorem fact19JoinNest : (Tryz.f8.resultTypes.all (fun t => Tryz.prog.readableRec t && decide (t < Tryz.prog.types.size))) = true := by kernel_rfl
theorem fact20JoinNest : ((Rows.joinNestRow.ifacesOut == Tryz.f8.resultTypes.toList.any (Tryz.prog.ifacesRec ·))) = true := by kernel_rfl
theorem fact21JoinNest : ((Rows.joinNestRow.loopsOut == Tryz.f8.resultTypes.toList.any (Tryz.prog.loopsFrom ·))) = true := by kernel_rfl
theorem fact22JoinNest : ((Rows.joinNestRow.plainKeys == Tryz.prog.plainKeys)) = true := by kernel_rfl
theorem fact23JoinNest : (Rows.joinNestRow.shortTexts.isNone) = true := by kernel_rfl
theorem fact24JoinNest : (Tryz.prog.stopsHeard) = true := by kernel_rfl
theorem fact25JoinNest : (Tryz.prog.mayEnter) = true := by kernel_rfl
theorem fact26JoinNest : ((Rows.joinNestRow.lifted == Tryz.prog.liftsFinal)) = true := by kernel_rfl
theorem fact27JoinNest : ((Tryz.prog.make == some Rows.joinNestRow.make)) = true := by kernel_rfl
theorem fact28JoinNest : ((Rows.joinNestRow.kinds == (if Rows.joinNestRow.domain.isEmpty then [] else Tryz.f8.params.toList.map fun t => match Tryz.prog.underlying t with | some (.int k) => some k | _ => none))) = true := by kernel_rfl
theorem fact29JoinNest : ((Rows.joinNestRow.pinned == Rows.joinNestRow.pinnedBy)) = true := by kernel_rfl
theorem fact30JoinNest : ((Rows.joinNestRow.veiled == (Tryz.f8.params.toList ++ Rows.joinNestSpec.plain.varTypes Tryz.prog ++ Tryz.f8.resultTypes.toList).any (Tryz.prog.veiledRec ·))) = true := by kernel_rfl
theorem fact31JoinNest : (Rows.joinNestRow.veiledFits Tryz.prog Tryz.f8.params.toList (Tryz.f8.params.toList ++ Rows.joinNestSpec.plain.varTypes Tryz.prog ++ Tryz.f8.resultTypes.toList)) = true := by kernel_rfl
set_option maxRecDepth 100000 in
theorem closedJoinNest : joinedFacts Tryz.prog 8 Tryz.f8 Rows.joinNestSpec Rows.joinNestRow = true := by
  unfold joinedFacts
  exact (and_t (and_t (and_t (and_t (and_t (and_t (and_t (and_t (and_t (and_t (and_t (and_t (and_t (and_t (and_t (and_t (and_t (and_t (and_t (and_t (and_t (and_t (and_t (and_t (and_t (and_t (and_t (and_t (and_t (and_t (and_t fact0JoinNest fact1JoinNest) fact2JoinNest) fact3JoinNest) fact4JoinNest) fact5JoinNest) fact6JoinNest) fact7JoinNest) fact8JoinNest) fact9JoinNest) fact10JoinNest) fact11JoinNest) fact12JoinNest) fact13JoinNest) fact14JoinNest) fact15JoinNest) fact16JoinNest) fact17JoinNest) fact18JoinNest) fact19JoinNest) fact20JoinNest) fact21JoinNest) fact22JoinNest) fact23JoinNest) fact24JoinNest) fact25JoinNest) fact26JoinNest) fact27JoinNest) fact28JoinNest) fact29JoinNest) fact30JoinNest) fact31JoinNest)
theorem fNamedJoinNest : Tryz.prog.funcNamed "gangsaw/gangsawlaw.JoinNest" = some 8 := by kernel_rfl
theorem instJoinNest : Tryz.f8.isInstance Tryz.prog Rows.joinNestRow.origin Rows.joinNestRow.targs := of_decide_eq_true (by kernel_rfl)
theorem wrapJoinNest : Tryz.f8.isWrapper Tryz.prog Rows.joinNestRow.wrapper Rows.joinNestRow.mainSum := by unfold Func.isWrapper; first | (rw [if_pos (by decide +kernel)]; kernel_rfl) | (rw [if_neg (by decide +kernel)]; exact ⟨rfl, rfl⟩)
theorem overJoinNest : Rows.joinNestRow.holds Tryz.pinned (OpenSpec.ofChange Rows.joinNestSpec) :=
  OpenClaim.holds_of_wide 8 Tryz.f8 rfl rfl rfl rfl rfl rfl rfl ⟨rfl, rfl, rfl, rfl, rfl⟩ rfl rfl rfl rfl rfl fNamedJoinNest Tryz.func8 closedJoinNest instJoinNest wrapJoinNest
    (fun os started H enc _ => liftedJoinNest os started H enc)

theorem byTextJoinNest : Rows.joinNestRow.wfByText (OpenSpec.ofChange Rows.joinNestSpec) = true := by kernel_rfl
theorem mainJoinNest : Tryz.prog.mainIs = some (((true, "b426d36aee87a7ddd55f45017cccf55016e8ded7f58b3cb4097dc16445e1fe35") : Bool × String).1, ((true, "b426d36aee87a7ddd55f45017cccf55016e8ded7f58b3cb4097dc16445e1fe35") : Bool × String).2.toList) := by kernel_rfl
theorem looksJoinNest : true = Tryz.prog.looks [] := by kernel_rfl
theorem standJoinNest : ([3, 48, 29, 29, 29].all fun u => !Tryz.prog.wantsStandIn u) = true := by kernel_rfl
theorem goesJoinNest : false = Rows.joinNestRow.goesBy Tryz.prog := by kernel_rfl
theorem provedJoinNest : Rows.JoinNestCardSaid :=
  Claim7.holds_tied_plain_at .later [] [.data, .data, .data, .data, .sentinel, .sentinel, .pinned] true (true, "b426d36aee87a7ddd55f45017cccf55016e8ded7f58b3cb4097dc16445e1fe35") true
    overJoinNest (fun _ h => by cases h) byTextJoinNest (fun _ h => by cases h) joinNest_row_tie rfl ⟨rfl, rfl⟩ mainJoinNest rfl
    (fun f fn hf hfn => by
      obtain rfl : f = 8 := Option.some.inj (fNamedJoinNest.symm.trans hf) |>.symm
      obtain rfl : fn = Tryz.f8 := (Option.some.inj (Tryz.func8.symm.trans hfn)).symm
      exact ⟨looksJoinNest, fun j t ht => by
        rw [Tryz.params8] at ht
        have hm : t ∈ [3, 48, 29, 29, 29] := by simpa using Array.mem_of_getElem? ht
        exact (show Tryz.prog.wantsStandIn t = false by simpa using List.all_eq_true.1 standJoinNest t hm)⟩)
    goesJoinNest

end Go.Proofs.YtffljdmmambdjabGreatDoor

