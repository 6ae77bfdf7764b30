/- DriverSame, as it is given: for every input the law returns true, and each argument reads as it did; the row's condition is what the card ties: the listed variables hold what the program's text lays. -/
import Derived.Test.YtffljdmmambdjaaGreatDoorF3
import Derived.Test.YtffljdmmambdjaaGreatDoorCards
import Derived.Test.YtffljdmmambdjaaGreatDoorTie
import Derived.ProofKit
import Derived.OpenShut
import Derived.ChangeOld
import Derived.Below
import Derived.SizedLaws
import Derived.LaidMore
import Derived.Lay
import Derived.SevenTiedAt
import Derived.Stop.LaidErr
import Derived.LaidLaws
set_option linter.unusedVariables false
set_option linter.unusedSimpArgs false
namespace Go.Proofs.YtffljdmmambdjaaGreatDoor
open Go.Proofs Go.RowKit
open Go.ChangeShapes Go.WideShapes Go.ChangeAt

theorem pow10DriverSame : Rows.laid_internal_strconv_uint64pow10 (H := Unit) = Lib.tabData .u64 Lib.pow10Tab := by kernel_rfl
theorem starDriverSame : "*" ++ "errors.errorString" = "*errors.errorString" := by decide
theorem rowErrDriverSame (u : TypeId) (h : Tryz.prog.typeName? 3 u = some "*errors.errorString") : u = 246 :=
  typeName_ptr_named (nm := "errors.errorString") (by rw [starDriverSame]; kernel_rfl) (by kernel_rfl) (by decide) u (by rw [starDriverSame]; exact h)
theorem gErrSyntaxDriverSame : Tryz.prog.globalNamed "strconv.ErrSyntax" = some 6 := by kernel_rfl
theorem tErrSyntaxDriverSame : (Tryz.prog.globals[6]?).map (·.type) = some 186 := by kernel_rfl
theorem laidErrSyntaxDriverSame {W : World} (h : laidMet Tryz.prog Rows.driverSameRow.laid W) : ∃ tp p, W.var? Tryz.prog "strconv.ErrSyntax" = some #[.iface tp p] := by
  obtain ⟨a, s, hv, -, -, -⟩ := laid_sentinel (h.tail.tail.tail.tail.tail) gErrSyntaxDriverSame tErrSyntaxDriverSame Tryz.underlying186 rowErrDriverSame Tryz.underlying246 Tryz.underlying248 rfl rfl Tryz.underlying9 (show Tryz.prog.cellsOf 248 = 1 by kernel_rfl) (show Tryz.prog.cellsOf 9 = 1 by kernel_rfl)
  exact ⟨_, _, hv⟩
theorem gErrRangeDriverSame : Tryz.prog.globalNamed "strconv.ErrRange" = some 7 := by kernel_rfl
theorem tErrRangeDriverSame : (Tryz.prog.globals[7]?).map (·.type) = some 186 := by kernel_rfl
theorem laidErrRangeDriverSame {W : World} (h : laidMet Tryz.prog Rows.driverSameRow.laid W) : ∃ tp p, W.var? Tryz.prog "strconv.ErrRange" = some #[.iface tp p] := by
  obtain ⟨a, s, hv, -, -, -⟩ := laid_sentinel (h.tail.tail.tail.tail) gErrRangeDriverSame tErrRangeDriverSame Tryz.underlying186 rowErrDriverSame Tryz.underlying246 Tryz.underlying248 rfl rfl Tryz.underlying9 (show Tryz.prog.cellsOf 248 = 1 by kernel_rfl) (show Tryz.prog.cellsOf 9 = 1 by kernel_rfl)
  exact ⟨_, _, hv⟩
theorem ownDriverSame : ownKnob Tryz.prog.godebug = none := by kernel_rfl
theorem laidOutDriverSame : laidOutB Tryz.prog = true := by kernel_rfl
set_option maxRecDepth 100000 in
theorem liftedDriverSame (os : Os) (started : os.Started) (H : Type) (enc : TypeId × Value → H) :
    ReturnsInHanded {} Tryz.checked os 3 .any (fun w args => (Rows.driverSameSpec.pre enc Tryz.prog Tryz.f3 Rows.driverSameRow.domain false w args ∧ laidMetH Tryz.prog Rows.driverSameRow.laid w) ∧ sizedMet enc Tryz.prog Tryz.f3 (OpenSpec.ofChange Rows.driverSameSpec) false w args) (Rows.driverSameSpec.post enc Tryz.prog Tryz.f3 false true false false) := by
  refine Gv.returns_both (C := Tryz.checked) (X := fun w _ => laidMetH Tryz.prog Rows.driverSameRow.laid w) (fun _ _ _ hh h => h.of_heap hh) ownDriverSame started (by kernel_rfl) Tryz.func3
    (ChangeSpec.witness_shaped (enc := enc) (C := Tryz.checked) (os := os) (X := fun w _ => laidMetH Tryz.prog Rows.driverSameRow.laid w) false (World.laidAll Tryz.prog os Rows.driverSameRow.laid) #[(.slice none 0 0), (.slice none 0 0), (.int .i64 0), (.int .i64 0), (.slice none 0 0)] 8 (World.laidAll_os _ _ _)
      (World.shaped_of_ZipB (by kernel_rfl) (by kernel_rfl)) (by kernel_rfl) (by kernel_rfl) (by kernel_rfl)
      (by rw [MakeChecks.laidMetH_plain _ _ _ (by kernel_rfl)]; exact laidMet_laidAll _ (by kernel_rfl) (by kernel_rfl))) ?_
  intro W base args ds gs before hval0 hW hsz0 hL hsh
  have hval : ∀ (j : Nat) t v, Tryz.f3.params[j]? = some t → args[j]? = some v → Value.okWide Tryz.prog W .any base t v := hval0
  have hsz : (DataW.weightsEach Tryz.prog (Tryz.f3.params.toList ++ []) (ds ++ gs)).all (· ≤ reachBytes) = true := hsz0
  clear hsz0
  rw [MakeChecks.laidMetH_plain _ _ _ (by kernel_rfl)] at hL
  letI : Gv.Glob := Gv.worldGlob W
  haveI : Gv.Laid := ⟨Gv.all_int (P := Tryz.prog) hsh (g := 0) (t := 3) (zero := #[.int .i64 0]) (of_decide_eq_true (by kernel_rfl)) (by kernel_rfl) rfl (by kernel_rfl) (by kernel_rfl) Tryz.underlying3⟩
  have hP : laidMet Tryz.prog (("internal/strconv.uint64pow10", Lib.tabData .u64 Lib.pow10Tab) :: Rows.driverSameRow.laid.drop 3) W := by
    rw [← pow10DriverSame]
    exact hL.tail.tail
  haveI : Gv.Nums := ⟨Gv.all_tab (Lib.tabIs_of_head (g := 1) (t := 206) (by kernel_rfl) (by kernel_rfl) Tryz.underlying206 Tryz.underlying156 (by kernel_rfl) (by kernel_rfl) hP)⟩
  haveI : Gv.Errs := ⟨fun w hw => let ⟨tp, p, e⟩ := laidErrSyntaxDriverSame hL; ⟨tp, p, Gv.all_var hw e⟩, fun w hw => let ⟨tp, p, e⟩ := laidErrRangeDriverSame hL; ⟨tp, p, Gv.all_var hw e⟩⟩
  have hW' := hW
  obtain ⟨p, q, hA0, hV, rfl, hfz, hnd⟩ := hW
  have hA : DataW.TrodAll enc Tryz.prog W 0 (fun _ => true) true Tryz.f3.params.toList args.toList ds p := hA0
  rw [Tryz.params3] at hA hval hsz
  obtain ⟨v0, vs0, d0, ds0, p0, q0, hargs, rfl, rfl, k0, r0⟩ := trodAll_cons hA
  obtain ⟨v1, vs1, d1, ds1, p1, q1, rfl, rfl, rfl, k1, r1⟩ := trodAll_cons r0
  obtain ⟨v2, vs2, d2, ds2, p2, q2, rfl, rfl, rfl, k2, r2⟩ := trodAll_cons r1
  obtain ⟨v3, vs3, d3, ds3, p3, q3, rfl, rfl, rfl, k3, r3⟩ := trodAll_cons r2
  obtain ⟨v4, vs4, d4, ds4, p4, q4, rfl, rfl, rfl, k4, r4⟩ := trodAll_cons r3
  obtain ⟨rfl, rfl, rfl⟩ := trodAll_nil r4
  obtain rfl : args = #[v0, v1, v2, v3, v4] := by cases args; simp_all
  obtain ⟨rfl, rfl⟩ := trodVars_none hV
  have lt0 : ∀ x ∈ p0, x.block < W.heap.size := by obtain ⟨m, hm⟩ := k0; exact DataW.trod_lt m _ _ _ hm
  have lt1 : ∀ x ∈ p1, x.block < W.heap.size := by obtain ⟨m, hm⟩ := k1; exact DataW.trod_lt m _ _ _ hm
  have lt2 : ∀ x ∈ p2, x.block < W.heap.size := by obtain ⟨m, hm⟩ := k2; exact DataW.trod_lt m _ _ _ hm
  have lt3 : ∀ x ∈ p3, x.block < W.heap.size := by obtain ⟨m, hm⟩ := k3; exact DataW.trod_lt m _ _ _ hm
  have lt4 : ∀ x ∈ p4, x.block < W.heap.size := by obtain ⟨m, hm⟩ := k4; exact DataW.trod_lt m _ _ _ hm
  have wt0 : ∀ n ∈ d0.weights Tryz.prog 22, n ≤ reachBytes := fun n hn => by simpa using List.all_eq_true.1 hsz n (DataW.weights_mem_each (j := 0) rfl rfl n hn)
  have wt1 : ∀ n ∈ d1.weights Tryz.prog 23, n ≤ reachBytes := fun n hn => by simpa using List.all_eq_true.1 hsz n (DataW.weights_mem_each (j := 1) rfl rfl n hn)
  have wt2 : ∀ n ∈ d2.weights Tryz.prog 3, n ≤ reachBytes := fun n hn => by simpa using List.all_eq_true.1 hsz n (DataW.weights_mem_each (j := 2) rfl rfl n hn)
  have wt3 : ∀ n ∈ d3.weights Tryz.prog 3, n ≤ reachBytes := fun n hn => by simpa using List.all_eq_true.1 hsz n (DataW.weights_mem_each (j := 3) rfl rfl n hn)
  have wt4 : ∀ n ∈ d4.weights Tryz.prog 24, n ≤ reachBytes := fun n hn => by simpa using List.all_eq_true.1 hsz n (DataW.weights_mem_each (j := 4) rfl rfl n hn)
  obtain ⟨a0, I0, g0⟩ := Gv.arg_slice Tryz.underlying22 (hval 0 22 v0 rfl rfl) (Gv.opn_slice (k := 2) Tryz.underlying22 (by kernel_rfl) (by omega) Gv.opn_file) k0 wt0
  obtain ⟨a1, I1, g1⟩ := Gv.arg_slice Tryz.underlying23 (hval 1 23 v1 rfl rfl) (Gv.opn_slice (k := 3) Tryz.underlying23 (by kernel_rfl) (by omega) Gv.opn_line) k1 wt1
  obtain ⟨a2, I2, g2⟩ := Gv.arg_int Tryz.underlying3 (hval 2 3 v2 rfl rfl) (Gv.opn_int Tryz.underlying3) (fun _ => rfl) k2 wt2
  obtain ⟨a3, I3, g3⟩ := Gv.arg_int Tryz.underlying3 (hval 3 3 v3 rfl rfl) (Gv.opn_int Tryz.underlying3) (fun _ => rfl) k3 wt3
  obtain ⟨a4, I4, g4⟩ := Gv.arg_slice Tryz.underlying24 (hval 4 24 v4 rfl rfl) (Gv.opn_slice (k := 1) Tryz.underlying24 (by kernel_rfl) (by omega) (Gv.opn_int Tryz.underlying3)) k4 wt4
  clear hA0 hval0
  refine (Gv.law_calls Gv.dSameT_ok W (Gv.worldGlob_le W) rfl (Gv.vr_cons g0 (Gv.vr_cons g1 (Gv.vr_cons g2 (Gv.vr_cons g3 (Gv.vr_cons g4 Gv.vr_nil))))) ⟨a0, a1, a2, a3, a4, rfl, ⟨I2, I3⟩, rfl⟩).mono fun e W' ⟨he, bel0⟩ => ?_
  have bel := bel0.below
  subst he
  exact ⟨_, rfl, _, _, _, [], _, [], hW', trodAll_mk1 (shut_bool Tryz.underlying4 _), (trodAll_cons_mk (Below.trod laidOutDriverSame (by kernel_rfl) (of_decide_eq_true (by kernel_rfl)) k0 bel lt0) (trodAll_cons_mk (Below.trod laidOutDriverSame (by kernel_rfl) (of_decide_eq_true (by kernel_rfl)) k1 bel lt1) (trodAll_cons_mk (Below.trod laidOutDriverSame (by kernel_rfl) (of_decide_eq_true (by kernel_rfl)) k2 bel lt2) (trodAll_cons_mk (Below.trod laidOutDriverSame (by kernel_rfl) (of_decide_eq_true (by kernel_rfl)) k3 bel lt3) (trodAll_cons_mk (Below.trod laidOutDriverSame (by kernel_rfl) (of_decide_eq_true (by kernel_rfl)) k4 bel lt4) trodAll_mk0))))), rfl, bel.frame _, fun h => by cases h⟩

theorem and_t {a b : Bool} (h : a = true) (k : b = true) : (a && b) = true := by rw [h, k]; rfl
theorem fact0DriverSame : (Rows.driverSameRow.wf (OpenSpec.ofChange Rows.driverSameSpec)) = true := by kernel_rfl
theorem fact1DriverSame : (laidOutB Tryz.prog) = true := by kernel_rfl
theorem fact2DriverSame : (mapsRowed Tryz.prog) = true := by kernel_rfl
theorem fact3DriverSame : (Tryz.f3.params.all (Tryz.prog.readableRec ·)) = true := by kernel_rfl
theorem fact4DriverSame : (namedTie Tryz.prog Rows.driverSameRow.named Rows.driverSameSpec.vars) = true := by kernel_rfl
theorem fact5DriverSame : ((Rows.driverSameRow.stops == [])) = true := by kernel_rfl
theorem fact6DriverSame : ((Tryz.prog.stops == [])) = true := by kernel_rfl
theorem fact7DriverSame : ((Rows.driverSameRow.knobs == [])) = true := by kernel_rfl
theorem fact8DriverSame : ((Tryz.prog.stopKnobs == [])) = true := by kernel_rfl
theorem fact9DriverSame : ((Rows.driverSameRow.inPlace == Tryz.prog.inPlace 3)) = true := by kernel_rfl
theorem fact10DriverSame : ((Rows.driverSameRow.unfollowed == Tryz.prog.unfollowed 3)) = true := by kernel_rfl
theorem fact11DriverSame : ((Rows.driverSameRow.recurses == Tryz.prog.recurses 3)) = true := by kernel_rfl
theorem fact12DriverSame : ((Rows.driverSameRow.named == Tryz.prog.varsNamed 3)) = true := by kernel_rfl
theorem fact13DriverSame : ((Rows.driverSameRow.maps == (Tryz.f3.params.toList ++ Rows.driverSameSpec.plain.varTypes Tryz.prog).any (Tryz.prog.mapsRec ·))) = true := by kernel_rfl
theorem fact14DriverSame : ((Rows.driverSameRow.ifaces == (Tryz.f3.params.toList ++ Rows.driverSameSpec.plain.varTypes Tryz.prog).any (Tryz.prog.ifacesRec ·))) = true := by kernel_rfl
theorem fact15DriverSame : ((Rows.driverSameRow.mapsOut == Tryz.prog.mapsAmong Tryz.f3.resultTypes.toList)) = true := by kernel_rfl
theorem fact16DriverSame : ((Rows.driverSameRow.loops == (Tryz.f3.params.toList ++ Rows.driverSameSpec.plain.varTypes Tryz.prog).any (Tryz.prog.loopsFrom ·))) = true := by kernel_rfl
theorem fact17DriverSame : ((Rows.driverSameRow.wideKeys == (Tryz.f3.params.toList ++ Rows.driverSameSpec.plain.varTypes Tryz.prog ++ Tryz.f3.resultTypes.toList).any (Tryz.prog.wideKeysFrom ·))) = true := by kernel_rfl
theorem fact18DriverSame : (Rows.driverSameSpec.vars.all (Tryz.prog.varReadable ·)) = true := by kernel_rfl
theorem fact19DriverSame : (Tryz.f3.resultTypes.all (fun t => Tryz.prog.readableRec t && decide (t < Tryz.prog.types.size))) = true := by kernel_rfl
theorem fact20DriverSame : ((Rows.driverSameRow.ifacesOut == Tryz.f3.resultTypes.toList.any (Tryz.prog.ifacesRec ·))) = true := by kernel_rfl
theorem fact21DriverSame : ((Rows.driverSameRow.loopsOut == Tryz.f3.resultTypes.toList.any (Tryz.prog.loopsFrom ·))) = true := by kernel_rfl
theorem fact22DriverSame : ((Rows.driverSameRow.plainKeys == Tryz.prog.plainKeys)) = true := by kernel_rfl
theorem fact23DriverSame : (Rows.driverSameRow.shortTexts.isNone) = true := by kernel_rfl
theorem fact24DriverSame : (Tryz.prog.stopsHeard) = true := by kernel_rfl
theorem fact25DriverSame : (Tryz.prog.mayEnter) = true := by kernel_rfl
theorem fact26DriverSame : ((Rows.driverSameRow.lifted == Tryz.prog.liftsFinal)) = true := by kernel_rfl
theorem fact27DriverSame : ((Tryz.prog.make == some Rows.driverSameRow.make)) = true := by kernel_rfl
theorem fact28DriverSame : ((Rows.driverSameRow.kinds == (if Rows.driverSameRow.domain.isEmpty then [] else Tryz.f3.params.toList.map fun t => match Tryz.prog.underlying t with | some (.int k) => some k | _ => none))) = true := by kernel_rfl
theorem fact29DriverSame : ((Rows.driverSameRow.pinned == Rows.driverSameRow.pinnedBy)) = true := by kernel_rfl
theorem fact30DriverSame : ((Rows.driverSameRow.veiled == (Tryz.f3.params.toList ++ Rows.driverSameSpec.plain.varTypes Tryz.prog ++ Tryz.f3.resultTypes.toList).any (Tryz.prog.veiledRec ·))) = true := by kernel_rfl
theorem fact31DriverSame : (Rows.driverSameRow.veiledFits Tryz.prog Tryz.f3.params.toList (Tryz.f3.params.toList ++ Rows.driverSameSpec.plain.varTypes Tryz.prog ++ Tryz.f3.resultTypes.toList)) = true := by kernel_rfl
set_option maxRecDepth 100000 in
theorem closedDriverSame : joinedFacts Tryz.prog 3 Tryz.f3 Rows.driverSameSpec Rows.driverSameRow = true := by
  unfold joinedFacts
  exact (and_t (and_t (and_t (and_t (and_t (and_t (and_t (and_t (and_t (and_t (and_t (and_t (and_t (and_t (and_t (and_t (and_t (and_t (and_t (and_t (and_t (and_t (and_t (and_t (and_t (and_t (and_t (and_t (and_t (and_t (and_t fact0DriverSame fact1DriverSame) fact2DriverSame) fact3DriverSame) fact4DriverSame) fact5DriverSame) fact6DriverSame) fact7DriverSame) fact8DriverSame) fact9DriverSame) fact10DriverSame) fact11DriverSame) fact12DriverSame) fact13DriverSame) fact14DriverSame) fact15DriverSame) fact16DriverSame) fact17DriverSame) fact18DriverSame) fact19DriverSame) fact20DriverSame) fact21DriverSame) fact22DriverSame) fact23DriverSame) fact24DriverSame) fact25DriverSame) fact26DriverSame) fact27DriverSame) fact28DriverSame) fact29DriverSame) fact30DriverSame) fact31DriverSame)
theorem fNamedDriverSame : Tryz.prog.funcNamed "gangsaw/gangsawlaw.DriverSame" = some 3 := by kernel_rfl
theorem instDriverSame : Tryz.f3.isInstance Tryz.prog Rows.driverSameRow.origin Rows.driverSameRow.targs := of_decide_eq_true (by kernel_rfl)
theorem wrapDriverSame : Tryz.f3.isWrapper Tryz.prog Rows.driverSameRow.wrapper Rows.driverSameRow.mainSum := by unfold Func.isWrapper; first | (rw [if_pos (by decide +kernel)]; kernel_rfl) | (rw [if_neg (by decide +kernel)]; exact ⟨rfl, rfl⟩)
theorem overDriverSame : Rows.driverSameRow.holds Tryz.pinned (OpenSpec.ofChange Rows.driverSameSpec) :=
  OpenClaim.holds_of_wide 3 Tryz.f3 rfl rfl rfl rfl rfl rfl rfl ⟨rfl, rfl, rfl, rfl, rfl⟩ rfl rfl rfl rfl rfl fNamedDriverSame Tryz.func3 closedDriverSame instDriverSame wrapDriverSame
    (fun os started H enc _ => liftedDriverSame os started H enc)

theorem byTextDriverSame : Rows.driverSameRow.wfByText (OpenSpec.ofChange Rows.driverSameSpec) = true := by kernel_rfl
theorem mainDriverSame : Tryz.prog.mainIs = some (((true, "b9f956e9c29dd5933c6db2be91099c0db6bb6a3dcdd5342b20f68beb3c87a5e8") : Bool × String).1, ((true, "b9f956e9c29dd5933c6db2be91099c0db6bb6a3dcdd5342b20f68beb3c87a5e8") : Bool × String).2.toList) := by kernel_rfl
theorem looksDriverSame : true = Tryz.prog.looks [] := by kernel_rfl
theorem standDriverSame : ([22, 23, 3, 3, 24].all fun u => !Tryz.prog.wantsStandIn u) = true := by kernel_rfl
theorem goesDriverSame : false = Rows.driverSameRow.goesBy Tryz.prog := by kernel_rfl
theorem provedDriverSame : Rows.DriverSameCardSaid :=
  Claim7.holds_tied_plain_at .later [] [.data, .data, .data, .data, .sentinel, .sentinel, .pinned] true (true, "b9f956e9c29dd5933c6db2be91099c0db6bb6a3dcdd5342b20f68beb3c87a5e8") true
    overDriverSame (fun _ h => by cases h) byTextDriverSame (fun _ h => by cases h) driverSame_row_tie rfl ⟨rfl, rfl⟩ mainDriverSame rfl
    (fun f fn hf hfn => by
      obtain rfl : f = 3 := Option.some.inj (fNamedDriverSame.symm.trans hf) |>.symm
      obtain rfl : fn = Tryz.f3 := (Option.some.inj (Tryz.func3.symm.trans hfn)).symm
      exact ⟨looksDriverSame, fun j t ht => by
        rw [Tryz.params3] at ht
        have hm : t ∈ [22, 23, 3, 3, 24] := by simpa using Array.mem_of_getElem? ht
        exact (show Tryz.prog.wantsStandIn t = false by simpa using List.all_eq_true.1 standDriverSame t hm)⟩)
    goesDriverSame

end Go.Proofs.YtffljdmmambdjaaGreatDoor

