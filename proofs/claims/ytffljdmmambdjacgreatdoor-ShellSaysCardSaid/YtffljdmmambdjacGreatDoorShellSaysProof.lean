/- ShellSays, as it is given: for every input the law returns true, and each argument reads as it did; the row's condition is what the card ties: the listed variables hold what the program's text lays. -/
import Derived.Test.YtffljdmmambdjacGreatDoorF2
import Derived.Test.YtffljdmmambdjacGreatDoorCards
import Derived.Test.YtffljdmmambdjacGreatDoorTie
import Derived.ProofKit
import Derived.OpenShut
import Derived.ChangeOld
import Derived.Below
import Derived.SizedLaws
import Derived.LaidMore
import Derived.Lay
import Derived.SevenTiedAt
import Derived.Stop.LaidErr
import Derived.LaidLaws
set_option linter.unusedVariables false
set_option linter.unusedSimpArgs false
namespace Go.Proofs.YtffljdmmambdjacGreatDoor
open Go.Proofs Go.RowKit
open Go.ChangeShapes Go.WideShapes Go.ChangeAt

theorem pow10ShellSays : Rows.laid_internal_strconv_uint64pow10 (H := Unit) = Lib.tabData .u64 Lib.pow10Tab := by kernel_rfl
theorem ownShellSays : ownKnob Tryz.prog.godebug = none := by kernel_rfl
theorem laidOutShellSays : laidOutB Tryz.prog = true := by kernel_rfl
set_option maxRecDepth 100000 in
theorem liftedShellSays (os : Os) (started : os.Started) (H : Type) (enc : TypeId × Value → H) :
    ReturnsInHanded {} Tryz.checked os 6 .any (fun w args => (Rows.shellSaysSpec.pre enc Tryz.prog Tryz.f6 Rows.shellSaysRow.domain false w args ∧ laidMetH Tryz.prog Rows.shellSaysRow.laid w) ∧ sizedMet enc Tryz.prog Tryz.f6 (OpenSpec.ofChange Rows.shellSaysSpec) false w args) (Rows.shellSaysSpec.post enc Tryz.prog Tryz.f6 false true false false) := by
  refine Gv.returns_both (C := Tryz.checked) (X := fun w _ => laidMetH Tryz.prog Rows.shellSaysRow.laid w) (fun _ _ _ hh h => h.of_heap hh) ownShellSays started (by kernel_rfl) Tryz.func6
    (ChangeSpec.witness_shaped (enc := enc) (C := Tryz.checked) (os := os) (X := fun w _ => laidMetH Tryz.prog Rows.shellSaysRow.laid w) false (World.laidAll Tryz.prog os Rows.shellSaysRow.laid) #[(.slice none 0 0), (.slice none 0 0), (.string ⟨#[]⟩), (.slice none 0 0), (.slice none 0 0)] 8 (World.laidAll_os _ _ _)
      (World.shaped_of_ZipB (by kernel_rfl) (by kernel_rfl)) (by kernel_rfl) (by kernel_rfl) (by kernel_rfl)
      (by rw [MakeChecks.laidMetH_plain _ _ _ (by kernel_rfl)]; exact laidMet_laidAll _ (by kernel_rfl) (by kernel_rfl))) ?_
  intro W base args ds gs before hval0 hW hsz0 hL hsh
  have hval : ∀ (j : Nat) t v, Tryz.f6.params[j]? = some t → args[j]? = some v → Value.okWide Tryz.prog W .any base t v := hval0
  have hsz : (DataW.weightsEach Tryz.prog (Tryz.f6.params.toList ++ []) (ds ++ gs)).all (· ≤ reachBytes) = true := hsz0
  clear hsz0
  rw [MakeChecks.laidMetH_plain _ _ _ (by kernel_rfl)] at hL
  letI : Gv.Glob := Gv.worldGlob W
  haveI : Gv.Laid := ⟨Gv.all_int (P := Tryz.prog) hsh (g := 0) (t := 3) (zero := #[.int .i64 0]) (of_decide_eq_true (by kernel_rfl)) (by kernel_rfl) rfl (by kernel_rfl) (by kernel_rfl) Tryz.underlying3⟩
  have hP : laidMet Tryz.prog (("internal/strconv.uint64pow10", Lib.tabData .u64 Lib.pow10Tab) :: Rows.shellSaysRow.laid.drop 3) W := by
    rw [← pow10ShellSays]
    exact hL.tail.tail
  haveI : Gv.Nums := ⟨Gv.all_tab (Lib.tabIs_of_head (g := 3) (t := 312) (by kernel_rfl) (by kernel_rfl) Tryz.underlying312 Tryz.underlying225 (by kernel_rfl) (by kernel_rfl) hP)⟩
  have hW' := hW
  obtain ⟨p, q, hA0, hV, rfl, hfz, hnd⟩ := hW
  have hA : DataW.TrodAll enc Tryz.prog W 0 (fun _ => true) true Tryz.f6.params.toList args.toList ds p := hA0
  rw [Tryz.params6] at hA hval hsz
  obtain ⟨v0, vs0, d0, ds0, p0, q0, hargs, rfl, rfl, k0, r0⟩ := trodAll_cons hA
  obtain ⟨v1, vs1, d1, ds1, p1, q1, rfl, rfl, rfl, k1, r1⟩ := trodAll_cons r0
  obtain ⟨v2, vs2, d2, ds2, p2, q2, rfl, rfl, rfl, k2, r2⟩ := trodAll_cons r1
  obtain ⟨v3, vs3, d3, ds3, p3, q3, rfl, rfl, rfl, k3, r3⟩ := trodAll_cons r2
  obtain ⟨v4, vs4, d4, ds4, p4, q4, rfl, rfl, rfl, k4, r4⟩ := trodAll_cons r3
  obtain ⟨rfl, rfl, rfl⟩ := trodAll_nil r4
  obtain rfl : args = #[v0, v1, v2, v3, v4] := by cases args; simp_all
  obtain ⟨rfl, rfl⟩ := trodVars_none hV
  have lt0 : ∀ x ∈ p0, x.block < W.heap.size := by obtain ⟨m, hm⟩ := k0; exact DataW.trod_lt m _ _ _ hm
  have lt1 : ∀ x ∈ p1, x.block < W.heap.size := by obtain ⟨m, hm⟩ := k1; exact DataW.trod_lt m _ _ _ hm
  have lt2 : ∀ x ∈ p2, x.block < W.heap.size := by obtain ⟨m, hm⟩ := k2; exact DataW.trod_lt m _ _ _ hm
  have lt3 : ∀ x ∈ p3, x.block < W.heap.size := by obtain ⟨m, hm⟩ := k3; exact DataW.trod_lt m _ _ _ hm
  have lt4 : ∀ x ∈ p4, x.block < W.heap.size := by obtain ⟨m, hm⟩ := k4; exact DataW.trod_lt m _ _ _ hm
  have wt0 : ∀ n ∈ d0.weights Tryz.prog 25, n ≤ reachBytes := fun n hn => by simpa using List.all_eq_true.1 hsz n (DataW.weights_mem_each (j := 0) rfl rfl n hn)
  have wt1 : ∀ n ∈ d1.weights Tryz.prog 74, n ≤ reachBytes := fun n hn => by simpa using List.all_eq_true.1 hsz n (DataW.weights_mem_each (j := 1) rfl rfl n hn)
  have wt2 : ∀ n ∈ d2.weights Tryz.prog 9, n ≤ reachBytes := fun n hn => by simpa using List.all_eq_true.1 hsz n (DataW.weights_mem_each (j := 2) rfl rfl n hn)
  have wt3 : ∀ n ∈ d3.weights Tryz.prog 28, n ≤ reachBytes := fun n hn => by simpa using List.all_eq_true.1 hsz n (DataW.weights_mem_each (j := 3) rfl rfl n hn)
  have wt4 : ∀ n ∈ d4.weights Tryz.prog 25, n ≤ reachBytes := fun n hn => by simpa using List.all_eq_true.1 hsz n (DataW.weights_mem_each (j := 4) rfl rfl n hn)
  obtain ⟨a0, I0, g0⟩ := Gv.arg_slice Tryz.underlying25 (hval 0 25 v0 rfl rfl) (Gv.opn_slice (k := 2) Tryz.underlying25 (by kernel_rfl) (by omega) Gv.opn_file) k0 wt0
  obtain ⟨a1, I1, g1⟩ := Gv.arg_slice Tryz.underlying74 (hval 1 74 v1 rfl rfl) (Gv.opn_slice (k := 3) Tryz.underlying74 (by kernel_rfl) (by omega) Gv.opn_line) k1 wt1
  obtain ⟨a2, I2, g2⟩ := Gv.arg_str Tryz.underlying9 (hval 2 9 v2 rfl rfl) k2 wt2
  obtain ⟨a3, I3, g3⟩ := Gv.arg_slice Tryz.underlying28 (hval 3 28 v3 rfl rfl) (Gv.opn_slice (k := 1) Tryz.underlying28 (by kernel_rfl) (by omega) (Gv.opn_byte Tryz.underlying5)) k3 wt3
  obtain ⟨a4, I4, g4⟩ := Gv.arg_slice Tryz.underlying25 (hval 4 25 v4 rfl rfl) (Gv.opn_slice (k := 2) Tryz.underlying25 (by kernel_rfl) (by omega) Gv.opn_file) k4 wt4
  clear hA0 hval0
  refine (Gv.law_calls Gv.shSaysT_ok W (Gv.worldGlob_le W) rfl (Gv.vr_cons g0 (Gv.vr_cons g1 (Gv.vr_cons g2 (Gv.vr_cons g3 (Gv.vr_cons g4 Gv.vr_nil))))) ⟨a0, a1, a2, a3, a4, rfl, rfl⟩).mono fun e W' ⟨he, bel0⟩ => ?_
  have bel := bel0.below
  subst he
  exact ⟨_, rfl, _, _, _, [], _, [], hW', trodAll_mk1 (shut_bool Tryz.underlying4 _), (trodAll_cons_mk (Below.trod laidOutShellSays (by kernel_rfl) (of_decide_eq_true (by kernel_rfl)) k0 bel lt0) (trodAll_cons_mk (Below.trod laidOutShellSays (by kernel_rfl) (of_decide_eq_true (by kernel_rfl)) k1 bel lt1) (trodAll_cons_mk (Below.trod laidOutShellSays (by kernel_rfl) (of_decide_eq_true (by kernel_rfl)) k2 bel lt2) (trodAll_cons_mk (Below.trod laidOutShellSays (by kernel_rfl) (of_decide_eq_true (by kernel_rfl)) k3 bel lt3) (trodAll_cons_mk (Below.trod laidOutShellSays (by kernel_rfl) (of_decide_eq_true (by kernel_rfl)) k4 bel lt4) trodAll_mk0))))), rfl, bel.frame _, fun h => by cases h⟩

theorem and_t {a b : Bool} (h : a = true) (k : b = true) : (a && b) = true := by rw [h, k]; rfl
theorem fact0ShellSays : (Rows.shellSaysRow.wf (OpenSpec.ofChange Rows.shellSaysSpec)) = true := by kernel_rfl
theorem fact1ShellSays : (laidOutB Tryz.prog) = true := by kernel_rfl
theorem fact2ShellSays : (mapsRowed Tryz.prog) = true := by kernel_rfl
theorem fact3ShellSays : (Tryz.f6.params.all (Tryz.prog.readableRec ·)) = true := by kernel_rfl
theorem fact4ShellSays : (namedTie Tryz.prog Rows.shellSaysRow.named Rows.shellSaysSpec.vars) = true := by kernel_rfl
theorem fact5ShellSays : ((Rows.shellSaysRow.stops == [])) = true := by kernel_rfl
theorem fact6ShellSays : ((Tryz.prog.stops == [])) = true := by kernel_rfl
theorem fact7ShellSays : ((Rows.shellSaysRow.knobs == [])) = true := by kernel_rfl
theorem fact8ShellSays : ((Tryz.prog.stopKnobs == [])) = true := by kernel_rfl
theorem fact9ShellSays : ((Rows.shellSaysRow.inPlace == Tryz.prog.inPlace 6)) = true := by kernel_rfl
theorem fact10ShellSays : ((Rows.shellSaysRow.unfollowed == Tryz.prog.unfollowed 6)) = true := by kernel_rfl
theorem fact11ShellSays : ((Rows.shellSaysRow.recurses == Tryz.prog.recurses 6)) = true := by kernel_rfl
theorem fact12ShellSays : ((Rows.shellSaysRow.named == Tryz.prog.varsNamed 6)) = true := by kernel_rfl
theorem fact13ShellSays : ((Rows.shellSaysRow.maps == (Tryz.f6.params.toList ++ Rows.shellSaysSpec.plain.varTypes Tryz.prog).any (Tryz.prog.mapsRec ·))) = true := by kernel_rfl
theorem fact14ShellSays : ((Rows.shellSaysRow.ifaces == (Tryz.f6.params.toList ++ Rows.shellSaysSpec.plain.varTypes Tryz.prog).any (Tryz.prog.ifacesRec ·))) = true := by kernel_rfl
theorem fact15ShellSays : ((Rows.shellSaysRow.mapsOut == Tryz.prog.mapsAmong Tryz.f6.resultTypes.toList)) = true := by kernel_rfl
theorem fact16ShellSays : ((Rows.shellSaysRow.loops == (Tryz.f6.params.toList ++ Rows.shellSaysSpec.plain.varTypes Tryz.prog).any (Tryz.prog.loopsFrom ·))) = true := by kernel_rfl
theorem fact17ShellSays : ((Rows.shellSaysRow.wideKeys == (Tryz.f6.params.toList ++ Rows.shellSaysSpec.plain.varTypes Tryz.prog ++ Tryz.f6.resultTypes.toList).any (Tryz.prog.wideKeysFrom ·))) = true := by kernel_rfl
theorem fact18ShellSays : (Rows.shellSaysSpec.vars.all (Tryz.prog.varReadable ·)) = true := by kernel_rfl
theorem fact19ShellSays : (Tryz.f6.resultTypes.all (fun t => Tryz.prog.readableRec t && decide (t < Tryz.prog.types.size))) = true := by kernel_rfl
theorem fact20ShellSays : ((Rows.shellSaysRow.ifacesOut == Tryz.f6.resultTypes.toList.any (Tryz.prog.ifacesRec ·))) = true := by kernel_rfl
theorem fact21ShellSays : ((Rows.shellSaysRow.loopsOut == Tryz.f6.resultTypes.toList.any (Tryz.prog.loopsFrom ·))) = true := by kernel_rfl
theorem fact22ShellSays : ((Rows.shellSaysRow.plainKeys == Tryz.prog.plainKeys)) = true := by kernel_rfl
theorem fact23ShellSays : (Rows.shellSaysRow.shortTexts.isNone) = true := by kernel_rfl
theorem fact24ShellSays : (Tryz.prog.stopsHeard) = true := by kernel_rfl
theorem fact25ShellSays : (Tryz.prog.mayEnter) = true := by kernel_rfl
theorem fact26ShellSays : ((Rows.shellSaysRow.lifted == Tryz.prog.liftsFinal)) = true := by kernel_rfl
theorem fact27ShellSays : ((Tryz.prog.make == some Rows.shellSaysRow.make)) = true := by kernel_rfl
theorem fact28ShellSays : ((Rows.shellSaysRow.kinds == (if Rows.shellSaysRow.domain.isEmpty then [] else Tryz.f6.params.toList.map fun t => match Tryz.prog.underlying t with | some (.int k) => some k | _ => none))) = true := by kernel_rfl
theorem fact29ShellSays : ((Rows.shellSaysRow.pinned == Rows.shellSaysRow.pinnedBy)) = true := by kernel_rfl
theorem fact30ShellSays : ((Rows.shellSaysRow.veiled == (Tryz.f6.params.toList ++ Rows.shellSaysSpec.plain.varTypes Tryz.prog ++ Tryz.f6.resultTypes.toList).any (Tryz.prog.veiledRec ·))) = true := by kernel_rfl
theorem fact31ShellSays : (Rows.shellSaysRow.veiledFits Tryz.prog Tryz.f6.params.toList (Tryz.f6.params.toList ++ Rows.shellSaysSpec.plain.varTypes Tryz.prog ++ Tryz.f6.resultTypes.toList)) = true := by kernel_rfl
set_option maxRecDepth 100000 in
theorem closedShellSays : joinedFacts Tryz.prog 6 Tryz.f6 Rows.shellSaysSpec Rows.shellSaysRow = true := by
  unfold joinedFacts
  exact (and_t (and_t (and_t (and_t (and_t (and_t (and_t (and_t (and_t (and_t (and_t (and_t (and_t (and_t (and_t (and_t (and_t (and_t (and_t (and_t (and_t (and_t (and_t (and_t (and_t (and_t (and_t (and_t (and_t (and_t (and_t fact0ShellSays fact1ShellSays) fact2ShellSays) fact3ShellSays) fact4ShellSays) fact5ShellSays) fact6ShellSays) fact7ShellSays) fact8ShellSays) fact9ShellSays) fact10ShellSays) fact11ShellSays) fact12ShellSays) fact13ShellSays) fact14ShellSays) fact15ShellSays) fact16ShellSays) fact17ShellSays) fact18ShellSays) fact19ShellSays) fact20ShellSays) fact21ShellSays) fact22ShellSays) fact23ShellSays) fact24ShellSays) fact25ShellSays) fact26ShellSays) fact27ShellSays) fact28ShellSays) fact29ShellSays) fact30ShellSays) fact31ShellSays)
theorem fNamedShellSays : Tryz.prog.funcNamed "gangsaw/gangsawlaw.ShellSays" = some 6 := by kernel_rfl
theorem instShellSays : Tryz.f6.isInstance Tryz.prog Rows.shellSaysRow.origin Rows.shellSaysRow.targs := of_decide_eq_true (by kernel_rfl)
theorem wrapShellSays : Tryz.f6.isWrapper Tryz.prog Rows.shellSaysRow.wrapper Rows.shellSaysRow.mainSum := by unfold Func.isWrapper; first | (rw [if_pos (by decide +kernel)]; kernel_rfl) | (rw [if_neg (by decide +kernel)]; exact ⟨rfl, rfl⟩)
theorem overShellSays : Rows.shellSaysRow.holds Tryz.pinned (OpenSpec.ofChange Rows.shellSaysSpec) :=
  OpenClaim.holds_of_wide 6 Tryz.f6 rfl rfl rfl rfl rfl rfl rfl ⟨rfl, rfl, rfl, rfl, rfl⟩ rfl rfl rfl rfl rfl fNamedShellSays Tryz.func6 closedShellSays instShellSays wrapShellSays
    (fun os started H enc _ => liftedShellSays os started H enc)

theorem byTextShellSays : Rows.shellSaysRow.wfByText (OpenSpec.ofChange Rows.shellSaysSpec) = true := by kernel_rfl
theorem mainShellSays : Tryz.prog.mainIs = some (((true, "9ab1331a6b96b3c3520091a15f421155077d78ec8e12f48cbefae1dfb71190e2") : Bool × String).1, ((true, "9ab1331a6b96b3c3520091a15f421155077d78ec8e12f48cbefae1dfb71190e2") : Bool × String).2.toList) := by kernel_rfl
theorem looksShellSays : true = Tryz.prog.looks [] := by kernel_rfl
theorem standShellSays : ([25, 74, 9, 28, 25].all fun u => !Tryz.prog.wantsStandIn u) = true := by kernel_rfl
theorem goesShellSays : false = Rows.shellSaysRow.goesBy Tryz.prog := by kernel_rfl
theorem provedShellSays : Rows.ShellSaysCardSaid :=
  Claim7.holds_tied_plain_at .later [] [.data, .data, .data, .data, .pinned] true (true, "9ab1331a6b96b3c3520091a15f421155077d78ec8e12f48cbefae1dfb71190e2") true
    overShellSays (fun _ h => by cases h) byTextShellSays (fun _ h => by cases h) shellSays_row_tie rfl ⟨rfl, rfl⟩ mainShellSays rfl
    (fun f fn hf hfn => by
      obtain rfl : f = 6 := Option.some.inj (fNamedShellSays.symm.trans hf) |>.symm
      obtain rfl : fn = Tryz.f6 := (Option.some.inj (Tryz.func6.symm.trans hfn)).symm
      exact ⟨looksShellSays, fun j t ht => by
        rw [Tryz.params6] at ht
        have hm : t ∈ [25, 74, 9, 28, 25] := by simpa using Array.mem_of_getElem? ht
        exact (show Tryz.prog.wantsStandIn t = false by simpa using List.all_eq_true.1 standShellSays t hm)⟩)
    goesShellSays

end Go.Proofs.YtffljdmmambdjacGreatDoor

