/- JoinWhole, as it is given: for every input the law returns true, and each argument reads as it did; the row's condition is what the card ties: the listed variables hold what the program's text lays. -/
import Derived.Test.YtffljdmmambdjabGreatDoorF2
import Derived.Test.YtffljdmmambdjabGreatDoorCards
import Derived.Test.YtffljdmmambdjabGreatDoorTie
import Derived.ProofKit
import Derived.OpenShut
import Derived.ChangeOld
import Derived.Below
import Derived.SizedLaws
import Derived.LaidMore
import Derived.Lay
import Derived.SevenTiedAt
import Derived.Stop.LaidErr
import Derived.LaidLaws
set_option linter.unusedVariables false
set_option linter.unusedSimpArgs false
namespace Go.Proofs.YtffljdmmambdjabGreatDoor
open Go.Proofs Go.RowKit
open Go.ChangeShapes Go.WideShapes Go.ChangeAt

theorem pow10JoinWhole : Rows.laid_internal_strconv_uint64pow10 (H := Unit) = Lib.tabData .u64 Lib.pow10Tab := by kernel_rfl
theorem starJoinWhole : "*" ++ "errors.errorString" = "*errors.errorString" := by decide
theorem rowErrJoinWhole (u : TypeId) (h : Tryz.prog.typeName? 3 u = some "*errors.errorString") : u = 343 :=
  typeName_ptr_named (nm := "errors.errorString") (by rw [starJoinWhole]; kernel_rfl) (by kernel_rfl) (by decide) u (by rw [starJoinWhole]; exact h)
theorem gErrSyntaxJoinWhole : Tryz.prog.globalNamed "strconv.ErrSyntax" = some 3 := by kernel_rfl
theorem tErrSyntaxJoinWhole : (Tryz.prog.globals[3]?).map (·.type) = some 84 := by kernel_rfl
theorem laidErrSyntaxJoinWhole {W : World} (h : laidMet Tryz.prog Rows.joinWholeRow.laid W) : ∃ tp p, W.var? Tryz.prog "strconv.ErrSyntax" = some #[.iface tp p] := by
  obtain ⟨a, s, hv, -, -, -⟩ := laid_sentinel (h.tail.tail.tail.tail.tail) gErrSyntaxJoinWhole tErrSyntaxJoinWhole Tryz.underlying84 rowErrJoinWhole Tryz.underlying343 Tryz.underlying345 rfl rfl Tryz.underlying9 (show Tryz.prog.cellsOf 345 = 1 by kernel_rfl) (show Tryz.prog.cellsOf 9 = 1 by kernel_rfl)
  exact ⟨_, _, hv⟩
theorem gErrRangeJoinWhole : Tryz.prog.globalNamed "strconv.ErrRange" = some 4 := by kernel_rfl
theorem tErrRangeJoinWhole : (Tryz.prog.globals[4]?).map (·.type) = some 84 := by kernel_rfl
theorem laidErrRangeJoinWhole {W : World} (h : laidMet Tryz.prog Rows.joinWholeRow.laid W) : ∃ tp p, W.var? Tryz.prog "strconv.ErrRange" = some #[.iface tp p] := by
  obtain ⟨a, s, hv, -, -, -⟩ := laid_sentinel (h.tail.tail.tail.tail) gErrRangeJoinWhole tErrRangeJoinWhole Tryz.underlying84 rowErrJoinWhole Tryz.underlying343 Tryz.underlying345 rfl rfl Tryz.underlying9 (show Tryz.prog.cellsOf 345 = 1 by kernel_rfl) (show Tryz.prog.cellsOf 9 = 1 by kernel_rfl)
  exact ⟨_, _, hv⟩
theorem ownJoinWhole : ownKnob Tryz.prog.godebug = none := by kernel_rfl
theorem laidOutJoinWhole : laidOutB Tryz.prog = true := by kernel_rfl
set_option maxRecDepth 100000 in
theorem liftedJoinWhole (os : Os) (started : os.Started) (H : Type) (enc : TypeId × Value → H) :
    ReturnsInHanded {} Tryz.checked os 9 .any (fun w args => (Rows.joinWholeSpec.pre enc Tryz.prog Tryz.f9 Rows.joinWholeRow.domain false w args ∧ laidMetH Tryz.prog Rows.joinWholeRow.laid w) ∧ sizedMet enc Tryz.prog Tryz.f9 (OpenSpec.ofChange Rows.joinWholeSpec) false w args) (Rows.joinWholeSpec.post enc Tryz.prog Tryz.f9 false true false false) := by
  refine Gv.returns_both (C := Tryz.checked) (X := fun w _ => laidMetH Tryz.prog Rows.joinWholeRow.laid w) (fun _ _ _ hh h => h.of_heap hh) ownJoinWhole started (by kernel_rfl) Tryz.func9
    (ChangeSpec.witness_shaped (enc := enc) (C := Tryz.checked) (os := os) (X := fun w _ => laidMetH Tryz.prog Rows.joinWholeRow.laid w) false (World.laidAll Tryz.prog os Rows.joinWholeRow.laid) #[(.agg #[(.int .i64 0), (.string ⟨#[]⟩), (.int .i64 0)]), (.slice none 0 0)] 8 (World.laidAll_os _ _ _)
      (World.shaped_of_ZipB (by kernel_rfl) (by kernel_rfl)) (by kernel_rfl) (by kernel_rfl) (by kernel_rfl)
      (by rw [MakeChecks.laidMetH_plain _ _ _ (by kernel_rfl)]; exact laidMet_laidAll _ (by kernel_rfl) (by kernel_rfl))) ?_
  intro W base args ds gs before hval0 hW hsz0 hL hsh
  have hval : ∀ (j : Nat) t v, Tryz.f9.params[j]? = some t → args[j]? = some v → Value.okWide Tryz.prog W .any base t v := hval0
  have hsz : (DataW.weightsEach Tryz.prog (Tryz.f9.params.toList ++ []) (ds ++ gs)).all (· ≤ reachBytes) = true := hsz0
  clear hsz0
  rw [MakeChecks.laidMetH_plain _ _ _ (by kernel_rfl)] at hL
  letI : Gv.Glob := Gv.worldGlob W
  haveI : Gv.Laid := ⟨Gv.all_int (P := Tryz.prog) hsh (g := 2) (t := 3) (zero := #[.int .i64 0]) (of_decide_eq_true (by kernel_rfl)) (by kernel_rfl) rfl (by kernel_rfl) (by kernel_rfl) Tryz.underlying3⟩
  have hP : laidMet Tryz.prog (("internal/strconv.uint64pow10", Lib.tabData .u64 Lib.pow10Tab) :: Rows.joinWholeRow.laid.drop 3) W := by
    rw [← pow10JoinWhole]
    exact hL.tail.tail
  haveI : Gv.Nums := ⟨Gv.all_tab (Lib.tabIs_of_head (g := 5) (t := 339) (by kernel_rfl) (by kernel_rfl) Tryz.underlying339 Tryz.underlying260 (by kernel_rfl) (by kernel_rfl) hP)⟩
  haveI : Gv.Errs := ⟨fun w hw => let ⟨tp, p, e⟩ := laidErrSyntaxJoinWhole hL; ⟨tp, p, Gv.all_var hw e⟩, fun w hw => let ⟨tp, p, e⟩ := laidErrRangeJoinWhole hL; ⟨tp, p, Gv.all_var hw e⟩⟩
  have hW' := hW
  obtain ⟨p, q, hA0, hV, rfl, hfz, hnd⟩ := hW
  have hA : DataW.TrodAll enc Tryz.prog W 0 (fun _ => true) true Tryz.f9.params.toList args.toList ds p := hA0
  rw [Tryz.params9] at hA hval hsz
  obtain ⟨v0, vs0, d0, ds0, p0, q0, hargs, rfl, rfl, k0, r0⟩ := trodAll_cons hA
  obtain ⟨v1, vs1, d1, ds1, p1, q1, rfl, rfl, rfl, k1, r1⟩ := trodAll_cons r0
  obtain ⟨rfl, rfl, rfl⟩ := trodAll_nil r1
  obtain rfl : args = #[v0, v1] := by cases args; simp_all
  obtain ⟨rfl, rfl⟩ := trodVars_none hV
  have lt0 : ∀ x ∈ p0, x.block < W.heap.size := by obtain ⟨m, hm⟩ := k0; exact DataW.trod_lt m _ _ _ hm
  have lt1 : ∀ x ∈ p1, x.block < W.heap.size := by obtain ⟨m, hm⟩ := k1; exact DataW.trod_lt m _ _ _ hm
  have wt0 : ∀ n ∈ d0.weights Tryz.prog 48, n ≤ reachBytes := fun n hn => by simpa using List.all_eq_true.1 hsz n (DataW.weights_mem_each (j := 0) rfl rfl n hn)
  have wt1 : ∀ n ∈ d1.weights Tryz.prog 80, n ≤ reachBytes := fun n hn => by simpa using List.all_eq_true.1 hsz n (DataW.weights_mem_each (j := 1) rfl rfl n hn)
  obtain ⟨a0, I0, g0⟩ := Gv.arg_struct Tryz.underlying48 (hval 0 48 v0 rfl rfl) Gv.opn_cmdD k0 wt0
  obtain ⟨a1, I1, g1⟩ := Gv.arg_slice Tryz.underlying80 (hval 1 80 v1 rfl rfl) (Gv.opn_slice (k := 1) Tryz.underlying80 (by kernel_rfl) (by omega) (Gv.opn_slice (k := 1) Tryz.underlying29 (by kernel_rfl) (by omega) (Gv.opn_byte Tryz.underlying5))) k1 wt1
  clear hA0 hval0
  refine (Gv.law_calls Gv.jWholeT_ok W (Gv.worldGlob_le W) rfl (Gv.vr_cons g0 (Gv.vr_cons g1 Gv.vr_nil)) ⟨a0, a1, rfl, (fun b hb => Gv.len_bytes (by kernel_rfl) (I1.1 b hb).2), rfl⟩).mono fun e W' ⟨he, bel0⟩ => ?_
  have bel := bel0.below
  subst he
  exact ⟨_, rfl, _, _, _, [], _, [], hW', trodAll_mk1 (shut_bool Tryz.underlying4 _), (trodAll_cons_mk (Below.trod laidOutJoinWhole (by kernel_rfl) (of_decide_eq_true (by kernel_rfl)) k0 bel lt0) (trodAll_cons_mk (Below.trod laidOutJoinWhole (by kernel_rfl) (of_decide_eq_true (by kernel_rfl)) k1 bel lt1) trodAll_mk0)), rfl, bel.frame _, fun h => by cases h⟩

theorem and_t {a b : Bool} (h : a = true) (k : b = true) : (a && b) = true := by rw [h, k]; rfl
theorem fact0JoinWhole : (Rows.joinWholeRow.wf (OpenSpec.ofChange Rows.joinWholeSpec)) = true := by kernel_rfl
theorem fact1JoinWhole : (laidOutB Tryz.prog) = true := by kernel_rfl
theorem fact2JoinWhole : (mapsRowed Tryz.prog) = true := by kernel_rfl
theorem fact3JoinWhole : (Tryz.f9.params.all (Tryz.prog.readableRec ·)) = true := by kernel_rfl
theorem fact4JoinWhole : (namedTie Tryz.prog Rows.joinWholeRow.named Rows.joinWholeSpec.vars) = true := by kernel_rfl
theorem fact5JoinWhole : ((Rows.joinWholeRow.stops == [])) = true := by kernel_rfl
theorem fact6JoinWhole : ((Tryz.prog.stops == [])) = true := by kernel_rfl
theorem fact7JoinWhole : ((Rows.joinWholeRow.knobs == [])) = true := by kernel_rfl
theorem fact8JoinWhole : ((Tryz.prog.stopKnobs == [])) = true := by kernel_rfl
theorem fact9JoinWhole : ((Rows.joinWholeRow.inPlace == Tryz.prog.inPlace 9)) = true := by kernel_rfl
theorem fact10JoinWhole : ((Rows.joinWholeRow.unfollowed == Tryz.prog.unfollowed 9)) = true := by kernel_rfl
theorem fact11JoinWhole : ((Rows.joinWholeRow.recurses == Tryz.prog.recurses 9)) = true := by kernel_rfl
theorem fact12JoinWhole : ((Rows.joinWholeRow.named == Tryz.prog.varsNamed 9)) = true := by kernel_rfl
theorem fact13JoinWhole : ((Rows.joinWholeRow.maps == (Tryz.f9.params.toList ++ Rows.joinWholeSpec.plain.varTypes Tryz.prog).any (Tryz.prog.mapsRec ·))) = true := by kernel_rfl
theorem fact14JoinWhole : ((Rows.joinWholeRow.ifaces == (Tryz.f9.params.toList ++ Rows.joinWholeSpec.plain.varTypes Tryz.prog).any (Tryz.prog.ifacesRec ·))) = true := by kernel_rfl
theorem fact15JoinWhole : ((Rows.joinWholeRow.mapsOut == Tryz.prog.mapsAmong Tryz.f9.resultTypes.toList)) = true := by kernel_rfl
theorem fact16JoinWhole : ((Rows.joinWholeRow.loops == (Tryz.f9.params.toList ++ Rows.joinWholeSpec.plain.varTypes Tryz.prog).any (Tryz.prog.loopsFrom ·))) = true := by kernel_rfl
theorem fact17JoinWhole : ((Rows.joinWholeRow.wideKeys == (Tryz.f9.params.toList ++ Rows.joinWholeSpec.plain.varTypes Tryz.prog ++ Tryz.f9.resultTypes.toList).any (Tryz.prog.wideKeysFrom ·))) = true := by kernel_rfl
theorem fact18JoinWhole : (Rows.joinWholeSpec.vars.all (Tryz.prog.varReadable ·)) = true := by kernel_rfl
theorem fact19JoinWhole : (Tryz.f9.resultTypes.all (fun t => Tryz.prog.readableRec t && decide (t < Tryz.prog.types.size))) = true := by kernel_rfl
theorem fact20JoinWhole : ((Rows.joinWholeRow.ifacesOut == Tryz.f9.resultTypes.toList.any (Tryz.prog.ifacesRec ·))) = true := by kernel_rfl
theorem fact21JoinWhole : ((Rows.joinWholeRow.loopsOut == Tryz.f9.resultTypes.toList.any (Tryz.prog.loopsFrom ·))) = true := by kernel_rfl
theorem fact22JoinWhole : ((Rows.joinWholeRow.plainKeys == Tryz.prog.plainKeys)) = true := by kernel_rfl
theorem fact23JoinWhole : (Rows.joinWholeRow.shortTexts.isNone) = true := by kernel_rfl
theorem fact24JoinWhole : (Tryz.prog.stopsHeard) = true := by kernel_rfl
theorem fact25JoinWhole : (Tryz.prog.mayEnter) = true := by kernel_rfl
theorem fact26JoinWhole : ((Rows.joinWholeRow.lifted == Tryz.prog.liftsFinal)) = true := by kernel_rfl
theorem fact27JoinWhole : ((Tryz.prog.make == some Rows.joinWholeRow.make)) = true := by kernel_rfl
theorem fact28JoinWhole : ((Rows.joinWholeRow.kinds == (if Rows.joinWholeRow.domain.isEmpty then [] else Tryz.f9.params.toList.map fun t => match Tryz.prog.underlying t with | some (.int k) => some k | _ => none))) = true := by kernel_rfl
theorem fact29JoinWhole : ((Rows.joinWholeRow.pinned == Rows.joinWholeRow.pinnedBy)) = true := by kernel_rfl
theorem fact30JoinWhole : ((Rows.joinWholeRow.veiled == (Tryz.f9.params.toList ++ Rows.joinWholeSpec.plain.varTypes Tryz.prog ++ Tryz.f9.resultTypes.toList).any (Tryz.prog.veiledRec ·))) = true := by kernel_rfl
theorem fact31JoinWhole : (Rows.joinWholeRow.veiledFits Tryz.prog Tryz.f9.params.toList (Tryz.f9.params.toList ++ Rows.joinWholeSpec.plain.varTypes Tryz.prog ++ Tryz.f9.resultTypes.toList)) = true := by kernel_rfl
set_option maxRecDepth 100000 in
theorem closedJoinWhole : joinedFacts Tryz.prog 9 Tryz.f9 Rows.joinWholeSpec Rows.joinWholeRow = true := by
  unfold joinedFacts
  exact (and_t (and_t (and_t (and_t (and_t (and_t (and_t (and_t (and_t (and_t (and_t (and_t (and_t (and_t (and_t (and_t (and_t (and_t (and_t (and_t (and_t (and_t (and_t (and_t (and_t (and_t (and_t (and_t (and_t (and_t (and_t fact0JoinWhole fact1JoinWhole) fact2JoinWhole) fact3JoinWhole) fact4JoinWhole) fact5JoinWhole) fact6JoinWhole) fact7JoinWhole) fact8JoinWhole) fact9JoinWhole) fact10JoinWhole) fact11JoinWhole) fact12JoinWhole) fact13JoinWhole) fact14JoinWhole) fact15JoinWhole) fact16JoinWhole) fact17JoinWhole) fact18JoinWhole) fact19JoinWhole) fact20JoinWhole) fact21JoinWhole) fact22JoinWhole) fact23JoinWhole) fact24JoinWhole) fact25JoinWhole) fact26JoinWhole) fact27JoinWhole) fact28JoinWhole) fact29JoinWhole) fact30JoinWhole) fact31JoinWhole)
theorem fNamedJoinWhole : Tryz.prog.funcNamed "gangsaw/gangsawlaw.JoinWhole" = some 9 := by kernel_rfl
theorem instJoinWhole : Tryz.f9.isInstance Tryz.prog Rows.joinWholeRow.origin Rows.joinWholeRow.targs := of_decide_eq_true (by kernel_rfl)
theorem wrapJoinWhole : Tryz.f9.isWrapper Tryz.prog Rows.joinWholeRow.wrapper Rows.joinWholeRow.mainSum := by unfold Func.isWrapper; first | (rw [if_pos (by decide +kernel)]; kernel_rfl) | (rw [if_neg (by decide +kernel)]; exact ⟨rfl, rfl⟩)
theorem overJoinWhole : Rows.joinWholeRow.holds Tryz.pinned (OpenSpec.ofChange Rows.joinWholeSpec) :=
  OpenClaim.holds_of_wide 9 Tryz.f9 rfl rfl rfl rfl rfl rfl rfl ⟨rfl, rfl, rfl, rfl, rfl⟩ rfl rfl rfl rfl rfl fNamedJoinWhole Tryz.func9 closedJoinWhole instJoinWhole wrapJoinWhole
    (fun os started H enc _ => liftedJoinWhole os started H enc)

theorem byTextJoinWhole : Rows.joinWholeRow.wfByText (OpenSpec.ofChange Rows.joinWholeSpec) = true := by kernel_rfl
theorem mainJoinWhole : Tryz.prog.mainIs = some (((true, "b426d36aee87a7ddd55f45017cccf55016e8ded7f58b3cb4097dc16445e1fe35") : Bool × String).1, ((true, "b426d36aee87a7ddd55f45017cccf55016e8ded7f58b3cb4097dc16445e1fe35") : Bool × String).2.toList) := by kernel_rfl
theorem looksJoinWhole : true = Tryz.prog.looks [] := by kernel_rfl
theorem standJoinWhole : ([48, 80].all fun u => !Tryz.prog.wantsStandIn u) = true := by kernel_rfl
theorem goesJoinWhole : false = Rows.joinWholeRow.goesBy Tryz.prog := by kernel_rfl
theorem provedJoinWhole : Rows.JoinWholeCardSaid :=
  Claim7.holds_tied_plain_at .later [] [.data, .data, .data, .data, .sentinel, .sentinel, .pinned] true (true, "b426d36aee87a7ddd55f45017cccf55016e8ded7f58b3cb4097dc16445e1fe35") true
    overJoinWhole (fun _ h => by cases h) byTextJoinWhole (fun _ h => by cases h) joinWhole_row_tie rfl ⟨rfl, rfl⟩ mainJoinWhole rfl
    (fun f fn hf hfn => by
      obtain rfl : f = 9 := Option.some.inj (fNamedJoinWhole.symm.trans hf) |>.symm
      obtain rfl : fn = Tryz.f9 := (Option.some.inj (Tryz.func9.symm.trans hfn)).symm
      exact ⟨looksJoinWhole, fun j t ht => by
        rw [Tryz.params9] at ht
        have hm : t ∈ [48, 80] := by simpa using Array.mem_of_getElem? ht
        exact (show Tryz.prog.wantsStandIn t = false by simpa using List.all_eq_true.1 standJoinWhole t hm)⟩)
    goesJoinWhole

end Go.Proofs.YtffljdmmambdjabGreatDoor

