/- ShellFiles, as it is given: for every input the law returns true, and each argument reads as it did; the row's condition is what the card ties: the listed variables hold what the program's text lays. -/
import Derived.Test.YtffljdmmambdjabGreatDoorF1
import Derived.Test.YtffljdmmambdjabGreatDoorCards
import Derived.Test.YtffljdmmambdjabGreatDoorTie
import Derived.ProofKit
import Derived.OpenShut
import Derived.ChangeOld
import Derived.Below
import Derived.SizedLaws
import Derived.LaidMore
import Derived.Lay
import Derived.SevenTiedAt
import Derived.Stop.LaidErr
import Derived.LaidLaws
set_option linter.unusedVariables false
set_option linter.unusedSimpArgs false
namespace Go.Proofs.YtffljdmmambdjabGreatDoor
open Go.Proofs Go.RowKit
open Go.ChangeShapes Go.WideShapes Go.ChangeAt

theorem pow10ShellFiles : Rows.laid_internal_strconv_uint64pow10 (H := Unit) = Lib.tabData .u64 Lib.pow10Tab := by kernel_rfl
theorem ownShellFiles : ownKnob Tryz.prog.godebug = none := by kernel_rfl
theorem laidOutShellFiles : laidOutB Tryz.prog = true := by kernel_rfl
set_option maxRecDepth 100000 in
theorem liftedShellFiles (os : Os) (started : os.Started) (H : Type) (enc : TypeId × Value → H) :
    ReturnsInHanded {} Tryz.checked os 7 .any (fun w args => (Rows.shellFilesSpec.pre enc Tryz.prog Tryz.f7 Rows.shellFilesRow.domain false w args ∧ laidMetH Tryz.prog Rows.shellFilesRow.laid w) ∧ sizedMet enc Tryz.prog Tryz.f7 (OpenSpec.ofChange Rows.shellFilesSpec) false w args) (Rows.shellFilesSpec.post enc Tryz.prog Tryz.f7 false true false false) := by
  refine Gv.returns_both (C := Tryz.checked) (X := fun w _ => laidMetH Tryz.prog Rows.shellFilesRow.laid w) (fun _ _ _ hh h => h.of_heap hh) ownShellFiles started (by kernel_rfl) Tryz.func7
    (ChangeSpec.witness_shaped (enc := enc) (C := Tryz.checked) (os := os) (X := fun w _ => laidMetH Tryz.prog Rows.shellFilesRow.laid w) false (World.laidAll Tryz.prog os Rows.shellFilesRow.laid) #[(.slice none 0 0), (.slice none 0 0), (.string ⟨#[]⟩), (.slice none 0 0), (.int .i64 0)] 8 (World.laidAll_os _ _ _)
      (World.shaped_of_ZipB (by kernel_rfl) (by kernel_rfl)) (by kernel_rfl) (by kernel_rfl) (by kernel_rfl)
      (by rw [MakeChecks.laidMetH_plain _ _ _ (by kernel_rfl)]; exact laidMet_laidAll _ (by kernel_rfl) (by kernel_rfl))) ?_
  intro W base args ds gs before hval0 hW hsz0 hL hsh
  have hval : ∀ (j : Nat) t v, Tryz.f7.params[j]? = some t → args[j]? = some v → Value.okWide Tryz.prog W .any base t v := hval0
  have hsz : (DataW.weightsEach Tryz.prog (Tryz.f7.params.toList ++ []) (ds ++ gs)).all (· ≤ reachBytes) = true := hsz0
  clear hsz0
  rw [MakeChecks.laidMetH_plain _ _ _ (by kernel_rfl)] at hL
  letI : Gv.Glob := Gv.worldGlob W
  haveI : Gv.Laid := ⟨Gv.all_int (P := Tryz.prog) hsh (g := 2) (t := 3) (zero := #[.int .i64 0]) (of_decide_eq_true (by kernel_rfl)) (by kernel_rfl) rfl (by kernel_rfl) (by kernel_rfl) Tryz.underlying3⟩
  have hP : laidMet Tryz.prog (("internal/strconv.uint64pow10", Lib.tabData .u64 Lib.pow10Tab) :: Rows.shellFilesRow.laid.drop 3) W := by
    rw [← pow10ShellFiles]
    exact hL.tail.tail
  haveI : Gv.Nums := ⟨Gv.all_tab (Lib.tabIs_of_head (g := 5) (t := 339) (by kernel_rfl) (by kernel_rfl) Tryz.underlying339 Tryz.underlying260 (by kernel_rfl) (by kernel_rfl) hP)⟩
  have hW' := hW
  obtain ⟨p, q, hA0, hV, rfl, hfz, hnd⟩ := hW
  have hA : DataW.TrodAll enc Tryz.prog W 0 (fun _ => true) true Tryz.f7.params.toList args.toList ds p := hA0
  rw [Tryz.params7] at hA hval hsz
  obtain ⟨v0, vs0, d0, ds0, p0, q0, hargs, rfl, rfl, k0, r0⟩ := trodAll_cons hA
  obtain ⟨v1, vs1, d1, ds1, p1, q1, rfl, rfl, rfl, k1, r1⟩ := trodAll_cons r0
  obtain ⟨v2, vs2, d2, ds2, p2, q2, rfl, rfl, rfl, k2, r2⟩ := trodAll_cons r1
  obtain ⟨v3, vs3, d3, ds3, p3, q3, rfl, rfl, rfl, k3, r3⟩ := trodAll_cons r2
  obtain ⟨v4, vs4, d4, ds4, p4, q4, rfl, rfl, rfl, k4, r4⟩ := trodAll_cons r3
  obtain ⟨rfl, rfl, rfl⟩ := trodAll_nil r4
  obtain rfl : args = #[v0, v1, v2, v3, v4] := by cases args; simp_all
  obtain ⟨rfl, rfl⟩ := trodVars_none hV
  have lt0 : ∀ x ∈ p0, x.block < W.heap.size := by obtain ⟨m, hm⟩ := k0; exact DataW.trod_lt m _ _ _ hm
  have lt1 : ∀ x ∈ p1, x.block < W.heap.size := by obtain ⟨m, hm⟩ := k1; exact DataW.trod_lt m _ _ _ hm
  have lt2 : ∀ x ∈ p2, x.block < W.heap.size := by obtain ⟨m, hm⟩ := k2; exact DataW.trod_lt m _ _ _ hm
  have lt3 : ∀ x ∈ p3, x.block < W.heap.size := by obtain ⟨m, hm⟩ := k3; exact DataW.trod_lt m _ _ _ hm
  have lt4 : ∀ x ∈ p4, x.block < W.heap.size := by obtain ⟨m, hm⟩ := k4; exact DataW.trod_lt m _ _ _ hm
  have wt0 : ∀ n ∈ d0.weights Tryz.prog 22, n ≤ reachBytes := fun n hn => by simpa using List.all_eq_true.1 hsz n (DataW.weights_mem_each (j := 0) rfl rfl n hn)
  have wt1 : ∀ n ∈ d1.weights Tryz.prog 23, n ≤ reachBytes := fun n hn => by simpa using List.all_eq_true.1 hsz n (DataW.weights_mem_each (j := 1) rfl rfl n hn)
  have wt2 : ∀ n ∈ d2.weights Tryz.prog 9, n ≤ reachBytes := fun n hn => by simpa using List.all_eq_true.1 hsz n (DataW.weights_mem_each (j := 2) rfl rfl n hn)
  have wt3 : ∀ n ∈ d3.weights Tryz.prog 29, n ≤ reachBytes := fun n hn => by simpa using List.all_eq_true.1 hsz n (DataW.weights_mem_each (j := 3) rfl rfl n hn)
  have wt4 : ∀ n ∈ d4.weights Tryz.prog 3, n ≤ reachBytes := fun n hn => by simpa using List.all_eq_true.1 hsz n (DataW.weights_mem_each (j := 4) rfl rfl n hn)
  obtain ⟨a0, I0, g0⟩ := Gv.arg_slice Tryz.underlying22 (hval 0 22 v0 rfl rfl) (Gv.opn_slice (k := 2) Tryz.underlying22 (by kernel_rfl) (by omega) Gv.opn_file) k0 wt0
  obtain ⟨a1, I1, g1⟩ := Gv.arg_slice Tryz.underlying23 (hval 1 23 v1 rfl rfl) (Gv.opn_slice (k := 3) Tryz.underlying23 (by kernel_rfl) (by omega) Gv.opn_line) k1 wt1
  obtain ⟨a2, I2, g2⟩ := Gv.arg_str Tryz.underlying9 (hval 2 9 v2 rfl rfl) k2 wt2
  obtain ⟨a3, I3, g3⟩ := Gv.arg_slice Tryz.underlying29 (hval 3 29 v3 rfl rfl) (Gv.opn_slice (k := 1) Tryz.underlying29 (by kernel_rfl) (by omega) (Gv.opn_byte Tryz.underlying5)) k3 wt3
  obtain ⟨a4, I4, g4⟩ := Gv.arg_int Tryz.underlying3 (hval 4 3 v4 rfl rfl) (Gv.opn_int Tryz.underlying3) (fun _ => rfl) k4 wt4
  clear hA0 hval0
  refine (Gv.law_calls Gv.sFilesT_ok W (Gv.worldGlob_le W) rfl (Gv.vr_cons g0 (Gv.vr_cons g1 (Gv.vr_cons g2 (Gv.vr_cons g3 (Gv.vr_cons g4 Gv.vr_nil))))) ⟨a0, a1, a2, a3, a4, rfl, I4, rfl⟩).mono fun e W' ⟨he, bel0⟩ => ?_
  have bel := bel0.below
  subst he
  exact ⟨_, rfl, _, _, _, [], _, [], hW', trodAll_mk1 (shut_bool Tryz.underlying4 _), (trodAll_cons_mk (Below.trod laidOutShellFiles (by kernel_rfl) (of_decide_eq_true (by kernel_rfl)) k0 bel lt0) (trodAll_cons_mk (Below.trod laidOutShellFiles (by kernel_rfl) (of_decide_eq_true (by kernel_rfl)) k1 bel lt1) (trodAll_cons_mk (Below.trod laidOutShellFiles (by kernel_rfl) (of_decide_eq_true (by kernel_rfl)) k2 bel lt2) (trodAll_cons_mk (Below.trod laidOutShellFiles (by kernel_rfl) (of_decide_eq_true (by kernel_rfl)) k3 bel lt3) (trodAll_cons_mk (Below.trod laidOutShellFiles (by kernel_rfl) (of_decide_eq_true (by kernel_rfl)) k4 bel lt4) trodAll_mk0))))), rfl, bel.frame _, fun h => by cases h⟩

theorem and_t {a b : Bool} (h : a = true) (k : b = true) : (a && b) = true := by rw [h, k]; rfl
theorem fact0ShellFiles : (Rows.shellFilesRow.wf (OpenSpec.ofChange Rows.shellFilesSpec)) = true := by kernel_rfl
theorem fact1ShellFiles : (laidOutB Tryz.prog) = true := by kernel_rfl
theorem fact2ShellFiles : (mapsRowed Tryz.prog) = true := by kernel_rfl
theorem fact3ShellFiles : (Tryz.f7.params.all (Tryz.prog.readableRec ·)) = true := by kernel_rfl
theorem fact4ShellFiles : (namedTie Tryz.prog Rows.shellFilesRow.named Rows.shellFilesSpec.vars) = true := by kernel_rfl
theorem fact5ShellFiles : ((Rows.shellFilesRow.stops == [])) = true := by kernel_rfl
theorem fact6ShellFiles : ((Tryz.prog.stops == [])) = true := by kernel_rfl
theorem fact7ShellFiles : ((Rows.shellFilesRow.knobs == [])) = true := by kernel_rfl
theorem fact8ShellFiles : ((Tryz.prog.stopKnobs == [])) = true := by kernel_rfl
theorem fact9ShellFiles : ((Rows.shellFilesRow.inPlace == Tryz.prog.inPlace 7)) = true := by kernel_rfl
theorem fact10ShellFiles : ((Rows.shellFilesRow.unfollowed == Tryz.prog.unfollowed 7)) = true := by kernel_rfl
theorem fact11ShellFiles : ((Rows.shellFilesRow.recurses == Tryz.prog.recurses 7)) = true := by kernel_rfl
theorem fact12ShellFiles : ((Rows.shellFilesRow.named == Tryz.prog.varsNamed 7)) = true := by kernel_rfl
theorem fact13ShellFiles : ((Rows.shellFilesRow.maps == (Tryz.f7.params.toList ++ Rows.shellFilesSpec.plain.varTypes Tryz.prog).any (Tryz.prog.mapsRec ·))) = true := by kernel_rfl
theorem fact14ShellFiles : ((Rows.shellFilesRow.ifaces == (Tryz.f7.params.toList ++ Rows.shellFilesSpec.plain.varTypes Tryz.prog).any (Tryz.prog.ifacesRec ·))) = true := by kernel_rfl
theorem fact15ShellFiles : ((Rows.shellFilesRow.mapsOut == Tryz.prog.mapsAmong Tryz.f7.resultTypes.toList)) = true := by kernel_rfl
theorem fact16ShellFiles : ((Rows.shellFilesRow.loops == (Tryz.f7.params.toList ++ Rows.shellFilesSpec.plain.varTypes Tryz.prog).any (Tryz.prog.loopsFrom ·))) = true := by kernel_rfl
theorem fact17ShellFiles : ((Rows.shellFilesRow.wideKeys == (Tryz.f7.params.toList ++ Rows.shellFilesSpec.plain.varTypes Tryz.prog ++ Tryz.f7.resultTypes.toList).any (Tryz.prog.wideKeysFrom ·))) = true := by kernel_rfl
theorem fact18ShellFiles : (Rows.shellFilesSpec.vars.all (Tryz.prog.varReadable ·)) = true := by kernel_rfl
theorem fact19ShellFiles : (Tryz.f7.resultTypes.all (fun t => Tryz.prog.readableRec t && decide (t < Tryz.prog.types.size))) = true := by kernel_rfl
theorem fact20ShellFiles : ((Rows.shellFilesRow.ifacesOut == Tryz.f7.resultTypes.toList.any (Tryz.prog.ifacesRec ·))) = true := by kernel_rfl
theorem fact21ShellFiles : ((Rows.shellFilesRow.loopsOut == Tryz.f7.resultTypes.toList.any (Tryz.prog.loopsFrom ·))) = true := by kernel_rfl
theorem fact22ShellFiles : ((Rows.shellFilesRow.plainKeys == Tryz.prog.plainKeys)) = true := by kernel_rfl
theorem fact23ShellFiles : (Rows.shellFilesRow.shortTexts.isNone) = true := by kernel_rfl
theorem fact24ShellFiles : (Tryz.prog.stopsHeard) = true := by kernel_rfl
theorem fact25ShellFiles : (Tryz.prog.mayEnter) = true := by kernel_rfl
theorem fact26ShellFiles : ((Rows.shellFilesRow.lifted == Tryz.prog.liftsFinal)) = true := by kernel_rfl
theorem fact27ShellFiles : ((Tryz.prog.make == some Rows.shellFilesRow.make)) = true := by kernel_rfl
theorem fact28ShellFiles : ((Rows.shellFilesRow.kinds == (if Rows.shellFilesRow.domain.isEmpty then [] else Tryz.f7.params.toList.map fun t => match Tryz.prog.underlying t with | some (.int k) => some k | _ => none))) = true := by kernel_rfl
theorem fact29ShellFiles : ((Rows.shellFilesRow.pinned == Rows.shellFilesRow.pinnedBy)) = true := by kernel_rfl
theorem fact30ShellFiles : ((Rows.shellFilesRow.veiled == (Tryz.f7.params.toList ++ Rows.shellFilesSpec.plain.varTypes Tryz.prog ++ Tryz.f7.resultTypes.toList).any (Tryz.prog.veiledRec ·))) = true := by kernel_rfl
theorem fact31ShellFiles : (Rows.shellFilesRow.veiledFits Tryz.prog Tryz.f7.params.toList (Tryz.f7.params.toList ++ Rows.shellFilesSpec.plain.varTypes Tryz.prog ++ Tryz.f7.resultTypes.toList)) = true := by kernel_rfl
set_option maxRecDepth 100000 in
theorem closedShellFiles : joinedFacts Tryz.prog 7 Tryz.f7 Rows.shellFilesSpec Rows.shellFilesRow = true := by
  unfold joinedFacts
  exact (and_t (and_t (and_t (and_t (and_t (and_t (and_t (and_t (and_t (and_t (and_t (and_t (and_t (and_t (and_t (and_t (and_t (and_t (and_t (and_t (and_t (and_t (and_t (and_t (and_t (and_t (and_t (and_t (and_t (and_t (and_t fact0ShellFiles fact1ShellFiles) fact2ShellFiles) fact3ShellFiles) fact4ShellFiles) fact5ShellFiles) fact6ShellFiles) fact7ShellFiles) fact8ShellFiles) fact9ShellFiles) fact10ShellFiles) fact11ShellFiles) fact12ShellFiles) fact13ShellFiles) fact14ShellFiles) fact15ShellFiles) fact16ShellFiles) fact17ShellFiles) fact18ShellFiles) fact19ShellFiles) fact20ShellFiles) fact21ShellFiles) fact22ShellFiles) fact23ShellFiles) fact24ShellFiles) fact25ShellFiles) fact26ShellFiles) fact27ShellFiles) fact28ShellFiles) fact29ShellFiles) fact30ShellFiles) fact31ShellFiles)
theorem fNamedShellFiles : Tryz.prog.funcNamed "gangsaw/gangsawlaw.ShellFiles" = some 7 := by kernel_rfl
theorem instShellFiles : Tryz.f7.isInstance Tryz.prog Rows.shellFilesRow.origin Rows.shellFilesRow.targs := of_decide_eq_true (by kernel_rfl)
theorem wrapShellFiles : Tryz.f7.isWrapper Tryz.prog Rows.shellFilesRow.wrapper Rows.shellFilesRow.mainSum := by unfold Func.isWrapper; first | (rw [if_pos (by decide +kernel)]; kernel_rfl) | (rw [if_neg (by decide +kernel)]; exact ⟨rfl, rfl⟩)
theorem overShellFiles : Rows.shellFilesRow.holds Tryz.pinned (OpenSpec.ofChange Rows.shellFilesSpec) :=
  OpenClaim.holds_of_wide 7 Tryz.f7 rfl rfl rfl rfl rfl rfl rfl ⟨rfl, rfl, rfl, rfl, rfl⟩ rfl rfl rfl rfl rfl fNamedShellFiles Tryz.func7 closedShellFiles instShellFiles wrapShellFiles
    (fun os started H enc _ => liftedShellFiles os started H enc)

theorem byTextShellFiles : Rows.shellFilesRow.wfByText (OpenSpec.ofChange Rows.shellFilesSpec) = true := by kernel_rfl
theorem mainShellFiles : Tryz.prog.mainIs = some (((true, "b426d36aee87a7ddd55f45017cccf55016e8ded7f58b3cb4097dc16445e1fe35") : Bool × String).1, ((true, "b426d36aee87a7ddd55f45017cccf55016e8ded7f58b3cb4097dc16445e1fe35") : Bool × String).2.toList) := by kernel_rfl
theorem looksShellFiles : true = Tryz.prog.looks [] := by kernel_rfl
theorem standShellFiles : ([22, 23, 9, 29, 3].all fun u => !Tryz.prog.wantsStandIn u) = true := by kernel_rfl
theorem goesShellFiles : false = Rows.shellFilesRow.goesBy Tryz.prog := by kernel_rfl
theorem provedShellFiles : Rows.ShellFilesCardSaid :=
  Claim7.holds_tied_plain_at .later [] [.data, .data, .data, .data, .pinned] true (true, "b426d36aee87a7ddd55f45017cccf55016e8ded7f58b3cb4097dc16445e1fe35") true
    overShellFiles (fun _ h => by cases h) byTextShellFiles (fun _ h => by cases h) shellFiles_row_tie rfl ⟨rfl, rfl⟩ mainShellFiles rfl
    (fun f fn hf hfn => by
      obtain rfl : f = 7 := Option.some.inj (fNamedShellFiles.symm.trans hf) |>.symm
      obtain rfl : fn = Tryz.f7 := (Option.some.inj (Tryz.func7.symm.trans hfn)).symm
      exact ⟨looksShellFiles, fun j t ht => by
        rw [Tryz.params7] at ht
        have hm : t ∈ [22, 23, 9, 29, 3] := by simpa using Array.mem_of_getElem? ht
        exact (show Tryz.prog.wantsStandIn t = false by simpa using List.all_eq_true.1 standShellFiles t hm)⟩)
    goesShellFiles

end Go.Proofs.YtffljdmmambdjabGreatDoor

