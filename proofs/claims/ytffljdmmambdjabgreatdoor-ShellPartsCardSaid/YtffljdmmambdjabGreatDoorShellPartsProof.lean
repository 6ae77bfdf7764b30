/- ShellParts, as it is given: for every input the law returns true, and each argument reads as it did; the row's condition is what the card ties: the listed variables hold what the program's text lays. -/
import Derived.Test.YtffljdmmambdjabGreatDoorF1
import Derived.Test.YtffljdmmambdjabGreatDoorCards
import Derived.Test.YtffljdmmambdjabGreatDoorTie
import Derived.ProofKit
import Derived.OpenShut
import Derived.ChangeOld
import Derived.Below
import Derived.SizedLaws
import Derived.LaidMore
import Derived.Lay
import Derived.SevenTiedAt
import Derived.Stop.LaidErr
import Derived.LaidLaws
set_option linter.unusedVariables false
set_option linter.unusedSimpArgs false
namespace Go.Proofs.YtffljdmmambdjabGreatDoor
open Go.Proofs Go.RowKit
open Go.ChangeShapes Go.WideShapes Go.ChangeAt

theorem pow10ShellParts : Rows.laid_internal_strconv_uint64pow10 (H := Unit) = Lib.tabData .u64 Lib.pow10Tab := by kernel_rfl
theorem ownShellParts : ownKnob Tryz.prog.godebug = none := by kernel_rfl
theorem laidOutShellParts : laidOutB Tryz.prog = true := by kernel_rfl
set_option maxRecDepth 100000 in
theorem liftedShellParts (os : Os) (started : os.Started) (H : Type) (enc : TypeId × Value → H) :
    ReturnsInHanded {} Tryz.checked os 6 .any (fun w args => (Rows.shellPartsSpec.pre enc Tryz.prog Tryz.f6 Rows.shellPartsRow.domain false w args ∧ laidMetH Tryz.prog Rows.shellPartsRow.laid w) ∧ sizedMet enc Tryz.prog Tryz.f6 (OpenSpec.ofChange Rows.shellPartsSpec) false w args) (Rows.shellPartsSpec.post enc Tryz.prog Tryz.f6 false true false false) := by
  refine Gv.returns_both (C := Tryz.checked) (X := fun w _ => laidMetH Tryz.prog Rows.shellPartsRow.laid w) (fun _ _ _ hh h => h.of_heap hh) ownShellParts started (by kernel_rfl) Tryz.func6
    (ChangeSpec.witness_shaped (enc := enc) (C := Tryz.checked) (os := os) (X := fun w _ => laidMetH Tryz.prog Rows.shellPartsRow.laid w) false (World.laidAll Tryz.prog os Rows.shellPartsRow.laid) #[(.slice none 0 0), (.agg #[(.slice none 0 0), (.slice none 0 0), (.string ⟨#[]⟩)]), (.int .i64 0)] 8 (World.laidAll_os _ _ _)
      (World.shaped_of_ZipB (by kernel_rfl) (by kernel_rfl)) (by kernel_rfl) (by kernel_rfl) (by kernel_rfl)
      (by rw [MakeChecks.laidMetH_plain _ _ _ (by kernel_rfl)]; exact laidMet_laidAll _ (by kernel_rfl) (by kernel_rfl))) ?_
  intro W base args ds gs before hval0 hW hsz0 hL hsh
  have hval : ∀ (j : Nat) t v, Tryz.f6.params[j]? = some t → args[j]? = some v → Value.okWide Tryz.prog W .any base t v := hval0
  have hsz : (DataW.weightsEach Tryz.prog (Tryz.f6.params.toList ++ []) (ds ++ gs)).all (· ≤ reachBytes) = true := hsz0
  clear hsz0
  rw [MakeChecks.laidMetH_plain _ _ _ (by kernel_rfl)] at hL
  letI : Gv.Glob := Gv.worldGlob W
  haveI : Gv.Laid := ⟨Gv.all_int (P := Tryz.prog) hsh (g := 2) (t := 3) (zero := #[.int .i64 0]) (of_decide_eq_true (by kernel_rfl)) (by kernel_rfl) rfl (by kernel_rfl) (by kernel_rfl) Tryz.underlying3⟩
  have hP : laidMet Tryz.prog (("internal/strconv.uint64pow10", Lib.tabData .u64 Lib.pow10Tab) :: Rows.shellPartsRow.laid.drop 3) W := by
    rw [← pow10ShellParts]
    exact hL.tail.tail
  haveI : Gv.Nums := ⟨Gv.all_tab (Lib.tabIs_of_head (g := 5) (t := 339) (by kernel_rfl) (by kernel_rfl) Tryz.underlying339 Tryz.underlying260 (by kernel_rfl) (by kernel_rfl) hP)⟩
  have hW' := hW
  obtain ⟨p, q, hA0, hV, rfl, hfz, hnd⟩ := hW
  have hA : DataW.TrodAll enc Tryz.prog W 0 (fun _ => true) true Tryz.f6.params.toList args.toList ds p := hA0
  rw [Tryz.params6] at hA hval hsz
  obtain ⟨v0, vs0, d0, ds0, p0, q0, hargs, rfl, rfl, k0, r0⟩ := trodAll_cons hA
  obtain ⟨v1, vs1, d1, ds1, p1, q1, rfl, rfl, rfl, k1, r1⟩ := trodAll_cons r0
  obtain ⟨v2, vs2, d2, ds2, p2, q2, rfl, rfl, rfl, k2, r2⟩ := trodAll_cons r1
  obtain ⟨rfl, rfl, rfl⟩ := trodAll_nil r2
  obtain rfl : args = #[v0, v1, v2] := by cases args; simp_all
  obtain ⟨rfl, rfl⟩ := trodVars_none hV
  have lt0 : ∀ x ∈ p0, x.block < W.heap.size := by obtain ⟨m, hm⟩ := k0; exact DataW.trod_lt m _ _ _ hm
  have lt1 : ∀ x ∈ p1, x.block < W.heap.size := by obtain ⟨m, hm⟩ := k1; exact DataW.trod_lt m _ _ _ hm
  have lt2 : ∀ x ∈ p2, x.block < W.heap.size := by obtain ⟨m, hm⟩ := k2; exact DataW.trod_lt m _ _ _ hm
  have wt0 : ∀ n ∈ d0.weights Tryz.prog 22, n ≤ reachBytes := fun n hn => by simpa using List.all_eq_true.1 hsz n (DataW.weights_mem_each (j := 0) rfl rfl n hn)
  have wt1 : ∀ n ∈ d1.weights Tryz.prog 27, n ≤ reachBytes := fun n hn => by simpa using List.all_eq_true.1 hsz n (DataW.weights_mem_each (j := 1) rfl rfl n hn)
  have wt2 : ∀ n ∈ d2.weights Tryz.prog 3, n ≤ reachBytes := fun n hn => by simpa using List.all_eq_true.1 hsz n (DataW.weights_mem_each (j := 2) rfl rfl n hn)
  obtain ⟨a0, I0, g0⟩ := Gv.arg_slice Tryz.underlying22 (hval 0 22 v0 rfl rfl) (Gv.opn_slice (k := 2) Tryz.underlying22 (by kernel_rfl) (by omega) Gv.opn_file) k0 wt0
  obtain ⟨a1, I1, g1⟩ := Gv.arg_struct Tryz.underlying27 (hval 1 27 v1 rfl rfl) Gv.opn_line k1 wt1
  obtain ⟨a2, I2, g2⟩ := Gv.arg_int Tryz.underlying3 (hval 2 3 v2 rfl rfl) (Gv.opn_int Tryz.underlying3) (fun _ => rfl) k2 wt2
  clear hA0 hval0
  refine (Gv.law_calls Gv.sPartsT_ok W (Gv.worldGlob_le W) rfl (Gv.vr_cons g0 (Gv.vr_cons g1 (Gv.vr_cons g2 Gv.vr_nil))) ⟨a0, a1, a2, rfl, I2, rfl⟩).mono fun e W' ⟨he, bel0⟩ => ?_
  have bel := bel0.below
  subst he
  exact ⟨_, rfl, _, _, _, [], _, [], hW', trodAll_mk1 (shut_bool Tryz.underlying4 _), (trodAll_cons_mk (Below.trod laidOutShellParts (by kernel_rfl) (of_decide_eq_true (by kernel_rfl)) k0 bel lt0) (trodAll_cons_mk (Below.trod laidOutShellParts (by kernel_rfl) (of_decide_eq_true (by kernel_rfl)) k1 bel lt1) (trodAll_cons_mk (Below.trod laidOutShellParts (by kernel_rfl) (of_decide_eq_true (by kernel_rfl)) k2 bel lt2) trodAll_mk0))), rfl, bel.frame _, fun h => by cases h⟩

theorem and_t {a b : Bool} (h : a = true) (k : b = true) : (a && b) = true := by rw [h, k]; rfl
theorem fact0ShellParts : (Rows.shellPartsRow.wf (OpenSpec.ofChange Rows.shellPartsSpec)) = true := by kernel_rfl
theorem fact1ShellParts : (laidOutB Tryz.prog) = true := by kernel_rfl
theorem fact2ShellParts : (mapsRowed Tryz.prog) = true := by kernel_rfl
theorem fact3ShellParts : (Tryz.f6.params.all (Tryz.prog.readableRec ·)) = true := by kernel_rfl
theorem fact4ShellParts : (namedTie Tryz.prog Rows.shellPartsRow.named Rows.shellPartsSpec.vars) = true := by kernel_rfl
theorem fact5ShellParts : ((Rows.shellPartsRow.stops == [])) = true := by kernel_rfl
theorem fact6ShellParts : ((Tryz.prog.stops == [])) = true := by kernel_rfl
theorem fact7ShellParts : ((Rows.shellPartsRow.knobs == [])) = true := by kernel_rfl
theorem fact8ShellParts : ((Tryz.prog.stopKnobs == [])) = true := by kernel_rfl
theorem fact9ShellParts : ((Rows.shellPartsRow.inPlace == Tryz.prog.inPlace 6)) = true := by kernel_rfl
theorem fact10ShellParts : ((Rows.shellPartsRow.unfollowed == Tryz.prog.unfollowed 6)) = true := by kernel_rfl
theorem fact11ShellParts : ((Rows.shellPartsRow.recurses == Tryz.prog.recurses 6)) = true := by kernel_rfl
theorem fact12ShellParts : ((Rows.shellPartsRow.named == Tryz.prog.varsNamed 6)) = true := by kernel_rfl
theorem fact13ShellParts : ((Rows.shellPartsRow.maps == (Tryz.f6.params.toList ++ Rows.shellPartsSpec.plain.varTypes Tryz.prog).any (Tryz.prog.mapsRec ·))) = true := by kernel_rfl
theorem fact14ShellParts : ((Rows.shellPartsRow.ifaces == (Tryz.f6.params.toList ++ Rows.shellPartsSpec.plain.varTypes Tryz.prog).any (Tryz.prog.ifacesRec ·))) = true := by kernel_rfl
theorem fact15ShellParts : ((Rows.shellPartsRow.mapsOut == Tryz.prog.mapsAmong Tryz.f6.resultTypes.toList)) = true := by kernel_rfl
theorem fact16ShellParts : ((Rows.shellPartsRow.loops == (Tryz.f6.params.toList ++ Rows.shellPartsSpec.plain.varTypes Tryz.prog).any (Tryz.prog.loopsFrom ·))) = true := by kernel_rfl
theorem fact17ShellParts : ((Rows.shellPartsRow.wideKeys == (Tryz.f6.params.toList ++ Rows.shellPartsSpec.plain.varTypes Tryz.prog ++ Tryz.f6.resultTypes.toList).any (Tryz.prog.wideKeysFrom ·))) = true := by kernel_rfl
theorem fact18ShellParts : (Rows.shellPartsSpec.vars.all (Tryz.prog.varReadable ·)) = true := by kernel_rfl
theorem fact19ShellParts : (Tryz.f6.resultTypes.all (fun t => Tryz.prog.readableRec t && decide (t < Tryz.prog.types.size))) = true := by kernel_rfl
theorem fact20ShellParts : ((Rows.shellPartsRow.ifacesOut == Tryz.f6.resultTypes.toList.any (Tryz.prog.ifacesRec ·))) = true := by kernel_rfl
theorem fact21ShellParts : ((Rows.shellPartsRow.loopsOut == Tryz.f6.resultTypes.toList.any (Tryz.prog.loopsFrom ·))) = true := by kernel_rfl
theorem fact22ShellParts : ((Rows.shellPartsRow.plainKeys == Tryz.prog.plainKeys)) = true := by kernel_rfl
theorem fact23ShellParts : (Rows.shellPartsRow.shortTexts.isNone) = true := by kernel_rfl
theorem fact24ShellParts : (Tryz.prog.stopsHeard) = true := by kernel_rfl
theorem fact25ShellParts : (Tryz.prog.mayEnter) = true := by kernel_rfl
theorem fact26ShellParts : ((Rows.shellPartsRow.lifted == Tryz.prog.liftsFinal)) = true := by kernel_rfl
theorem fact27ShellParts : ((Tryz.prog.make == some Rows.shellPartsRow.make)) = true := by kernel_rfl
theorem fact28ShellParts : ((Rows.shellPartsRow.kinds == (if Rows.shellPartsRow.domain.isEmpty then [] else Tryz.f6.params.toList.map fun t => match Tryz.prog.underlying t with | some (.int k) => some k | _ => none))) = true := by kernel_rfl
theorem fact29ShellParts : ((Rows.shellPartsRow.pinned == Rows.shellPartsRow.pinnedBy)) = true := by kernel_rfl
theorem fact30ShellParts : ((Rows.shellPartsRow.veiled == (Tryz.f6.params.toList ++ Rows.shellPartsSpec.plain.varTypes Tryz.prog ++ Tryz.f6.resultTypes.toList).any (Tryz.prog.veiledRec ·))) = true := by kernel_rfl
theorem fact31ShellParts : (Rows.shellPartsRow.veiledFits Tryz.prog Tryz.f6.params.toList (Tryz.f6.params.toList ++ Rows.shellPartsSpec.plain.varTypes Tryz.prog ++ Tryz.f6.resultTypes.toList)) = true := by kernel_rfl
set_option maxRecDepth 100000 in
theorem closedShellParts : joinedFacts Tryz.prog 6 Tryz.f6 Rows.shellPartsSpec Rows.shellPartsRow = true := by
  unfold joinedFacts
  exact (and_t (and_t (and_t (and_t (and_t (and_t (and_t (and_t (and_t (and_t (and_t (and_t (and_t (and_t (and_t (and_t (and_t (and_t (and_t (and_t (and_t (and_t (and_t (and_t (and_t (and_t (and_t (and_t (and_t (and_t (and_t fact0ShellParts fact1ShellParts) fact2ShellParts) fact3ShellParts) fact4ShellParts) fact5ShellParts) fact6ShellParts) fact7ShellParts) fact8ShellParts) fact9ShellParts) fact10ShellParts) fact11ShellParts) fact12ShellParts) fact13ShellParts) fact14ShellParts) fact15ShellParts) fact16ShellParts) fact17ShellParts) fact18ShellParts) fact19ShellParts) fact20ShellParts) fact21ShellParts) fact22ShellParts) fact23ShellParts) fact24ShellParts) fact25ShellParts) fact26ShellParts) fact27ShellParts) fact28ShellParts) fact29ShellParts) fact30ShellParts) fact31ShellParts)
theorem fNamedShellParts : Tryz.prog.funcNamed "gangsaw/gangsawlaw.ShellParts" = some 6 := by kernel_rfl
theorem instShellParts : Tryz.f6.isInstance Tryz.prog Rows.shellPartsRow.origin Rows.shellPartsRow.targs := of_decide_eq_true (by kernel_rfl)
theorem wrapShellParts : Tryz.f6.isWrapper Tryz.prog Rows.shellPartsRow.wrapper Rows.shellPartsRow.mainSum := by unfold Func.isWrapper; first | (rw [if_pos (by decide +kernel)]; kernel_rfl) | (rw [if_neg (by decide +kernel)]; exact ⟨rfl, rfl⟩)
theorem overShellParts : Rows.shellPartsRow.holds Tryz.pinned (OpenSpec.ofChange Rows.shellPartsSpec) :=
  OpenClaim.holds_of_wide 6 Tryz.f6 rfl rfl rfl rfl rfl rfl rfl ⟨rfl, rfl, rfl, rfl, rfl⟩ rfl rfl rfl rfl rfl fNamedShellParts Tryz.func6 closedShellParts instShellParts wrapShellParts
    (fun os started H enc _ => liftedShellParts os started H enc)

theorem byTextShellParts : Rows.shellPartsRow.wfByText (OpenSpec.ofChange Rows.shellPartsSpec) = true := by kernel_rfl
theorem mainShellParts : Tryz.prog.mainIs = some (((true, "b426d36aee87a7ddd55f45017cccf55016e8ded7f58b3cb4097dc16445e1fe35") : Bool × String).1, ((true, "b426d36aee87a7ddd55f45017cccf55016e8ded7f58b3cb4097dc16445e1fe35") : Bool × String).2.toList) := by kernel_rfl
theorem looksShellParts : true = Tryz.prog.looks [] := by kernel_rfl
theorem standShellParts : ([22, 27, 3].all fun u => !Tryz.prog.wantsStandIn u) = true := by kernel_rfl
theorem goesShellParts : false = Rows.shellPartsRow.goesBy Tryz.prog := by kernel_rfl
theorem provedShellParts : Rows.ShellPartsCardSaid :=
  Claim7.holds_tied_plain_at .later [] [.data, .data, .data, .data, .pinned] true (true, "b426d36aee87a7ddd55f45017cccf55016e8ded7f58b3cb4097dc16445e1fe35") true
    overShellParts (fun _ h => by cases h) byTextShellParts (fun _ h => by cases h) shellParts_row_tie rfl ⟨rfl, rfl⟩ mainShellParts rfl
    (fun f fn hf hfn => by
      obtain rfl : f = 6 := Option.some.inj (fNamedShellParts.symm.trans hf) |>.symm
      obtain rfl : fn = Tryz.f6 := (Option.some.inj (Tryz.func6.symm.trans hfn)).symm
      exact ⟨looksShellParts, fun j t ht => by
        rw [Tryz.params6] at ht
        have hm : t ∈ [22, 27, 3] := by simpa using Array.mem_of_getElem? ht
        exact (show Tryz.prog.wantsStandIn t = false by simpa using List.all_eq_true.1 standShellParts t hm)⟩)
    goesShellParts

end Go.Proofs.YtffljdmmambdjabGreatDoor

