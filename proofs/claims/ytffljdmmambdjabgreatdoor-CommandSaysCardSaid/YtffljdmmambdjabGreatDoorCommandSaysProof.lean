/- CommandSays, as it is given: for every input the law returns true, and each argument reads as it did; the row's condition is what the card ties: the listed variables hold what the program's text lays. -/
import Derived.Test.YtffljdmmambdjabGreatDoorF2
import Derived.Test.YtffljdmmambdjabGreatDoorCards
import Derived.Test.YtffljdmmambdjabGreatDoorTie
import Derived.ProofKit
import Derived.OpenShut
import Derived.ChangeOld
import Derived.Below
import Derived.SizedLaws
import Derived.LaidMore
import Derived.Lay
import Derived.SevenTiedAt
import Derived.Stop.LaidErr
import Derived.LaidLaws
set_option linter.unusedVariables false
set_option linter.unusedSimpArgs false
namespace Go.Proofs.YtffljdmmambdjabGreatDoor
open Go.Proofs Go.RowKit
open Go.ChangeShapes Go.WideShapes Go.ChangeAt

theorem pow10CommandSays : Rows.laid_internal_strconv_uint64pow10 (H := Unit) = Lib.tabData .u64 Lib.pow10Tab := by kernel_rfl
theorem ownCommandSays : ownKnob Tryz.prog.godebug = none := by kernel_rfl
theorem laidOutCommandSays : laidOutB Tryz.prog = true := by kernel_rfl
set_option maxRecDepth 100000 in
theorem liftedCommandSays (os : Os) (started : os.Started) (H : Type) (enc : TypeId × Value → H) :
    ReturnsInHanded {} Tryz.checked os 4 .any (fun w args => (Rows.commandSaysSpec.pre enc Tryz.prog Tryz.f4 Rows.commandSaysRow.domain false w args ∧ laidMetH Tryz.prog Rows.commandSaysRow.laid w) ∧ sizedMet enc Tryz.prog Tryz.f4 (OpenSpec.ofChange Rows.commandSaysSpec) false w args) (Rows.commandSaysSpec.post enc Tryz.prog Tryz.f4 false true false false) := by
  refine Gv.returns_both (C := Tryz.checked) (X := fun w _ => laidMetH Tryz.prog Rows.commandSaysRow.laid w) (fun _ _ _ hh h => h.of_heap hh) ownCommandSays started (by kernel_rfl) Tryz.func4
    (ChangeSpec.witness_shaped (enc := enc) (C := Tryz.checked) (os := os) (X := fun w _ => laidMetH Tryz.prog Rows.commandSaysRow.laid w) false (World.laidAll Tryz.prog os Rows.commandSaysRow.laid) #[(.agg #[(.int .i64 0), (.string ⟨#[]⟩), (.int .i64 0)]), (.slice none 0 0), (.string ⟨#[]⟩)] 8 (World.laidAll_os _ _ _)
      (World.shaped_of_ZipB (by kernel_rfl) (by kernel_rfl)) (by kernel_rfl) (by kernel_rfl) (by kernel_rfl)
      (by rw [MakeChecks.laidMetH_plain _ _ _ (by kernel_rfl)]; exact laidMet_laidAll _ (by kernel_rfl) (by kernel_rfl))) ?_
  intro W base args ds gs before hval0 hW hsz0 hL hsh
  have hval : ∀ (j : Nat) t v, Tryz.f4.params[j]? = some t → args[j]? = some v → Value.okWide Tryz.prog W .any base t v := hval0
  have hsz : (DataW.weightsEach Tryz.prog (Tryz.f4.params.toList ++ []) (ds ++ gs)).all (· ≤ reachBytes) = true := hsz0
  clear hsz0
  rw [MakeChecks.laidMetH_plain _ _ _ (by kernel_rfl)] at hL
  letI : Gv.Glob := Gv.worldGlob W
  haveI : Gv.Laid := ⟨Gv.all_int (P := Tryz.prog) hsh (g := 2) (t := 3) (zero := #[.int .i64 0]) (of_decide_eq_true (by kernel_rfl)) (by kernel_rfl) rfl (by kernel_rfl) (by kernel_rfl) Tryz.underlying3⟩
  have hP : laidMet Tryz.prog (("internal/strconv.uint64pow10", Lib.tabData .u64 Lib.pow10Tab) :: Rows.commandSaysRow.laid.drop 3) W := by
    rw [← pow10CommandSays]
    exact hL.tail.tail
  haveI : Gv.Nums := ⟨Gv.all_tab (Lib.tabIs_of_head (g := 5) (t := 339) (by kernel_rfl) (by kernel_rfl) Tryz.underlying339 Tryz.underlying260 (by kernel_rfl) (by kernel_rfl) hP)⟩
  have hW' := hW
  obtain ⟨p, q, hA0, hV, rfl, hfz, hnd⟩ := hW
  have hA : DataW.TrodAll enc Tryz.prog W 0 (fun _ => true) true Tryz.f4.params.toList args.toList ds p := hA0
  rw [Tryz.params4] at hA hval hsz
  obtain ⟨v0, vs0, d0, ds0, p0, q0, hargs, rfl, rfl, k0, r0⟩ := trodAll_cons hA
  obtain ⟨v1, vs1, d1, ds1, p1, q1, rfl, rfl, rfl, k1, r1⟩ := trodAll_cons r0
  obtain ⟨v2, vs2, d2, ds2, p2, q2, rfl, rfl, rfl, k2, r2⟩ := trodAll_cons r1
  obtain ⟨rfl, rfl, rfl⟩ := trodAll_nil r2
  obtain rfl : args = #[v0, v1, v2] := by cases args; simp_all
  obtain ⟨rfl, rfl⟩ := trodVars_none hV
  have lt0 : ∀ x ∈ p0, x.block < W.heap.size := by obtain ⟨m, hm⟩ := k0; exact DataW.trod_lt m _ _ _ hm
  have lt1 : ∀ x ∈ p1, x.block < W.heap.size := by obtain ⟨m, hm⟩ := k1; exact DataW.trod_lt m _ _ _ hm
  have lt2 : ∀ x ∈ p2, x.block < W.heap.size := by obtain ⟨m, hm⟩ := k2; exact DataW.trod_lt m _ _ _ hm
  have wt0 : ∀ n ∈ d0.weights Tryz.prog 48, n ≤ reachBytes := fun n hn => by simpa using List.all_eq_true.1 hsz n (DataW.weights_mem_each (j := 0) rfl rfl n hn)
  have wt1 : ∀ n ∈ d1.weights Tryz.prog 29, n ≤ reachBytes := fun n hn => by simpa using List.all_eq_true.1 hsz n (DataW.weights_mem_each (j := 1) rfl rfl n hn)
  have wt2 : ∀ n ∈ d2.weights Tryz.prog 9, n ≤ reachBytes := fun n hn => by simpa using List.all_eq_true.1 hsz n (DataW.weights_mem_each (j := 2) rfl rfl n hn)
  obtain ⟨a0, I0, g0⟩ := Gv.arg_struct Tryz.underlying48 (hval 0 48 v0 rfl rfl) Gv.opn_cmdC k0 wt0
  obtain ⟨a1, I1, g1⟩ := Gv.arg_slice Tryz.underlying29 (hval 1 29 v1 rfl rfl) (Gv.opn_slice (k := 1) Tryz.underlying29 (by kernel_rfl) (by omega) (Gv.opn_byte Tryz.underlying5)) k1 wt1
  obtain ⟨a2, I2, g2⟩ := Gv.arg_str Tryz.underlying9 (hval 2 9 v2 rfl rfl) k2 wt2
  clear hA0 hval0
  refine (Gv.law_calls Gv.cSaysT_ok W (Gv.worldGlob_le W) rfl (Gv.vr_cons g0 (Gv.vr_cons g1 (Gv.vr_cons g2 Gv.vr_nil))) ⟨a0, a1, a2, rfl, Gv.len_bytes (by kernel_rfl) I1.2, rfl⟩).mono fun e W' ⟨he, bel0⟩ => ?_
  have bel := bel0.below
  subst he
  exact ⟨_, rfl, _, _, _, [], _, [], hW', trodAll_mk1 (shut_bool Tryz.underlying4 _), (trodAll_cons_mk (Below.trod laidOutCommandSays (by kernel_rfl) (of_decide_eq_true (by kernel_rfl)) k0 bel lt0) (trodAll_cons_mk (Below.trod laidOutCommandSays (by kernel_rfl) (of_decide_eq_true (by kernel_rfl)) k1 bel lt1) (trodAll_cons_mk (Below.trod laidOutCommandSays (by kernel_rfl) (of_decide_eq_true (by kernel_rfl)) k2 bel lt2) trodAll_mk0))), rfl, bel.frame _, fun h => by cases h⟩

theorem and_t {a b : Bool} (h : a = true) (k : b = true) : (a && b) = true := by rw [h, k]; rfl
theorem fact0CommandSays : (Rows.commandSaysRow.wf (OpenSpec.ofChange Rows.commandSaysSpec)) = true := by kernel_rfl
theorem fact1CommandSays : (laidOutB Tryz.prog) = true := by kernel_rfl
theorem fact2CommandSays : (mapsRowed Tryz.prog) = true := by kernel_rfl
theorem fact3CommandSays : (Tryz.f4.params.all (Tryz.prog.readableRec ·)) = true := by kernel_rfl
theorem fact4CommandSays : (namedTie Tryz.prog Rows.commandSaysRow.named Rows.commandSaysSpec.vars) = true := by kernel_rfl
theorem fact5CommandSays : ((Rows.commandSaysRow.stops == [])) = true := by kernel_rfl
theorem fact6CommandSays : ((Tryz.prog.stops == [])) = true := by kernel_rfl
theorem fact7CommandSays : ((Rows.commandSaysRow.knobs == [])) = true := by kernel_rfl
theorem fact8CommandSays : ((Tryz.prog.stopKnobs == [])) = true := by kernel_rfl
theorem fact9CommandSays : ((Rows.commandSaysRow.inPlace == Tryz.prog.inPlace 4)) = true := by kernel_rfl
theorem fact10CommandSays : ((Rows.commandSaysRow.unfollowed == Tryz.prog.unfollowed 4)) = true := by kernel_rfl
theorem fact11CommandSays : ((Rows.commandSaysRow.recurses == Tryz.prog.recurses 4)) = true := by kernel_rfl
theorem fact12CommandSays : ((Rows.commandSaysRow.named == Tryz.prog.varsNamed 4)) = true := by kernel_rfl
theorem fact13CommandSays : ((Rows.commandSaysRow.maps == (Tryz.f4.params.toList ++ Rows.commandSaysSpec.plain.varTypes Tryz.prog).any (Tryz.prog.mapsRec ·))) = true := by kernel_rfl
theorem fact14CommandSays : ((Rows.commandSaysRow.ifaces == (Tryz.f4.params.toList ++ Rows.commandSaysSpec.plain.varTypes Tryz.prog).any (Tryz.prog.ifacesRec ·))) = true := by kernel_rfl
theorem fact15CommandSays : ((Rows.commandSaysRow.mapsOut == Tryz.prog.mapsAmong Tryz.f4.resultTypes.toList)) = true := by kernel_rfl
theorem fact16CommandSays : ((Rows.commandSaysRow.loops == (Tryz.f4.params.toList ++ Rows.commandSaysSpec.plain.varTypes Tryz.prog).any (Tryz.prog.loopsFrom ·))) = true := by kernel_rfl
theorem fact17CommandSays : ((Rows.commandSaysRow.wideKeys == (Tryz.f4.params.toList ++ Rows.commandSaysSpec.plain.varTypes Tryz.prog ++ Tryz.f4.resultTypes.toList).any (Tryz.prog.wideKeysFrom ·))) = true := by kernel_rfl
theorem fact18CommandSays : (Rows.commandSaysSpec.vars.all (Tryz.prog.varReadable ·)) = true := by kernel_rfl
theorem fact19CommandSays : (Tryz.f4.resultTypes.all (fun t => Tryz.prog.readableRec t && decide (t < Tryz.prog.types.size))) = true := by kernel_rfl
theorem fact20CommandSays : ((Rows.commandSaysRow.ifacesOut == Tryz.f4.resultTypes.toList.any (Tryz.prog.ifacesRec ·))) = true := by kernel_rfl
theorem fact21CommandSays : ((Rows.commandSaysRow.loopsOut == Tryz.f4.resultTypes.toList.any (Tryz.prog.loopsFrom ·))) = true := by kernel_rfl
theorem fact22CommandSays : ((Rows.commandSaysRow.plainKeys == Tryz.prog.plainKeys)) = true := by kernel_rfl
theorem fact23CommandSays : (Rows.commandSaysRow.shortTexts.isNone) = true := by kernel_rfl
theorem fact24CommandSays : (Tryz.prog.stopsHeard) = true := by kernel_rfl
theorem fact25CommandSays : (Tryz.prog.mayEnter) = true := by kernel_rfl
theorem fact26CommandSays : ((Rows.commandSaysRow.lifted == Tryz.prog.liftsFinal)) = true := by kernel_rfl
theorem fact27CommandSays : ((Tryz.prog.make == some Rows.commandSaysRow.make)) = true := by kernel_rfl
theorem fact28CommandSays : ((Rows.commandSaysRow.kinds == (if Rows.commandSaysRow.domain.isEmpty then [] else Tryz.f4.params.toList.map fun t => match Tryz.prog.underlying t with | some (.int k) => some k | _ => none))) = true := by kernel_rfl
theorem fact29CommandSays : ((Rows.commandSaysRow.pinned == Rows.commandSaysRow.pinnedBy)) = true := by kernel_rfl
theorem fact30CommandSays : ((Rows.commandSaysRow.veiled == (Tryz.f4.params.toList ++ Rows.commandSaysSpec.plain.varTypes Tryz.prog ++ Tryz.f4.resultTypes.toList).any (Tryz.prog.veiledRec ·))) = true := by kernel_rfl
theorem fact31CommandSays : (Rows.commandSaysRow.veiledFits Tryz.prog Tryz.f4.params.toList (Tryz.f4.params.toList ++ Rows.commandSaysSpec.plain.varTypes Tryz.prog ++ Tryz.f4.resultTypes.toList)) = true := by kernel_rfl
set_option maxRecDepth 100000 in
theorem closedCommandSays : joinedFacts Tryz.prog 4 Tryz.f4 Rows.commandSaysSpec Rows.commandSaysRow = true := by
  unfold joinedFacts
  exact (and_t (and_t (and_t (and_t (and_t (and_t (and_t (and_t (and_t (and_t (and_t (and_t (and_t (and_t (and_t (and_t (and_t (and_t (and_t (and_t (and_t (and_t (and_t (and_t (and_t (and_t (and_t (and_t (and_t (and_t (and_t fact0CommandSays fact1CommandSays) fact2CommandSays) fact3CommandSays) fact4CommandSays) fact5CommandSays) fact6CommandSays) fact7CommandSays) fact8CommandSays) fact9CommandSays) fact10CommandSays) fact11CommandSays) fact12CommandSays) fact13CommandSays) fact14CommandSays) fact15CommandSays) fact16CommandSays) fact17CommandSays) fact18CommandSays) fact19CommandSays) fact20CommandSays) fact21CommandSays) fact22CommandSays) fact23CommandSays) fact24CommandSays) fact25CommandSays) fact26CommandSays) fact27CommandSays) fact28CommandSays) fact29CommandSays) fact30CommandSays) fact31CommandSays)
theorem fNamedCommandSays : Tryz.prog.funcNamed "gangsaw/gangsawlaw.CommandSays" = some 4 := by kernel_rfl
theorem instCommandSays : Tryz.f4.isInstance Tryz.prog Rows.commandSaysRow.origin Rows.commandSaysRow.targs := of_decide_eq_true (by kernel_rfl)
theorem wrapCommandSays : Tryz.f4.isWrapper Tryz.prog Rows.commandSaysRow.wrapper Rows.commandSaysRow.mainSum := by unfold Func.isWrapper; first | (rw [if_pos (by decide +kernel)]; kernel_rfl) | (rw [if_neg (by decide +kernel)]; exact ⟨rfl, rfl⟩)
theorem overCommandSays : Rows.commandSaysRow.holds Tryz.pinned (OpenSpec.ofChange Rows.commandSaysSpec) :=
  OpenClaim.holds_of_wide 4 Tryz.f4 rfl rfl rfl rfl rfl rfl rfl ⟨rfl, rfl, rfl, rfl, rfl⟩ rfl rfl rfl rfl rfl fNamedCommandSays Tryz.func4 closedCommandSays instCommandSays wrapCommandSays
    (fun os started H enc _ => liftedCommandSays os started H enc)

theorem byTextCommandSays : Rows.commandSaysRow.wfByText (OpenSpec.ofChange Rows.commandSaysSpec) = true := by kernel_rfl
theorem mainCommandSays : Tryz.prog.mainIs = some (((true, "b426d36aee87a7ddd55f45017cccf55016e8ded7f58b3cb4097dc16445e1fe35") : Bool × String).1, ((true, "b426d36aee87a7ddd55f45017cccf55016e8ded7f58b3cb4097dc16445e1fe35") : Bool × String).2.toList) := by kernel_rfl
theorem looksCommandSays : true = Tryz.prog.looks [] := by kernel_rfl
theorem standCommandSays : ([48, 29, 9].all fun u => !Tryz.prog.wantsStandIn u) = true := by kernel_rfl
theorem goesCommandSays : false = Rows.commandSaysRow.goesBy Tryz.prog := by kernel_rfl
theorem provedCommandSays : Rows.CommandSaysCardSaid :=
  Claim7.holds_tied_plain_at .later [] [.data, .data, .data, .data, .pinned] true (true, "b426d36aee87a7ddd55f45017cccf55016e8ded7f58b3cb4097dc16445e1fe35") true
    overCommandSays (fun _ h => by cases h) byTextCommandSays (fun _ h => by cases h) commandSays_row_tie rfl ⟨rfl, rfl⟩ mainCommandSays rfl
    (fun f fn hf hfn => by
      obtain rfl : f = 4 := Option.some.inj (fNamedCommandSays.symm.trans hf) |>.symm
      obtain rfl : fn = Tryz.f4 := (Option.some.inj (Tryz.func4.symm.trans hfn)).symm
      exact ⟨looksCommandSays, fun j t ht => by
        rw [Tryz.params4] at ht
        have hm : t ∈ [48, 29, 9] := by simpa using Array.mem_of_getElem? ht
        exact (show Tryz.prog.wantsStandIn t = false by simpa using List.all_eq_true.1 standCommandSays t hm)⟩)
    goesCommandSays

end Go.Proofs.YtffljdmmambdjabGreatDoor

