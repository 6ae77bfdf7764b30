/- What functions of the program come to, part 2: in every world; the conditions stand in each theorem. -/
import Derived.Test.YtffljdmmambdjabGreatDoorF1
set_option linter.unusedVariables false
set_option linter.unusedSectionVars false
set_option linter.unusedSimpArgs false
open Go Go.Proofs Gw Gp
namespace Gv
variable [Glob] [Laid] [Nums]
theorem Do_ca : callable Tryz.prog 28 = true := by kernel_rfl
def Do_S : Spec := fun args K => ∃ (c : Cmd) (b : Bs), args = [cmdV c, .sl byteV b] ∧ K (.tup [.sl byteV (doC c b).1, .int .i64 (doC c b).2])
noncomputable def Do_lib : List (Nat × Spec) := [(31, ccheck_S), (96, Of_S), (98, linesC_S), (97, put_S)]
noncomputable def Do_fns : List (Nat × FnI) := []
noncomputable def Do_prims : List (Nat × PSpec) := []
theorem Do_E : EnvOK ⟨Tryz.prog, tys, Do_lib, Do_fns, Do_prims, []⟩ := env_ok mixed0 tys0 (.cons ccheck_ca ccheck_ok (.cons Of_ca Of_ok (.cons linesC_ca linesC_ok (.cons put_ca put_ok .nil)))) .nil .nil rfl
set_option maxHeartbeats 4000000 in
theorem Do_ok : Pure Tryz.prog 28 Do_S := by
  refine pure_by Do_E 6 (fi := {fn := Tryz.f28, hooks := [], draws := []}) ⟨Tryz.func28, by kernel_rfl, by kernel_rfl⟩ ?_
  rintro _ K ⟨c, b, rfl, hK⟩
  replace hK : ∀ r, r = .tup [.sl byteV (doC c b).1, .int .i64 (doC c b).2] → K r := fun r h => h ▸ hK
  have hone : ∀ r : Bs × Int, doC c b = r → K (.tup [.sl byteV r.1, .int .i64 r.2]) := fun r h => hK _ (by rw [h])
  unfold doC at hone
  refine ⟨c.kind, c.word, c.n, rfl, ?_⟩
  have hce : checkCmd ⟨c.kind, c.word, c.n⟩ = checkCmd c := rfl
  rw [hce]
  obtain ⟨e, he⟩ : ∃ e, checkCmd c = e := ⟨_, rfl⟩
  rw [he] at hone ⊢
  repeat' (first | exact True.intro | refine ⟨_, LeL.refl _, ?_⟩ | refine ⟨_, _, _, LeL.refl _, ?_⟩ | (refine fun (b : Bool) hb => ?_; cases b <;> (first | exact absurd hb (by decide) | exact Bool.noConfusion (show true = false from hb) | exact Bool.noConfusion (show false = true from hb) | skip)) | (refine fun (hl : _ ≤ MAXL) => ?_) | refine And.intro (a := I64 _) ?_ ?_ | refine And.intro (a := _ ≤ 140737488355328) ?_ ?_ | refine ⟨_, ⟨rfl, rfl⟩, ?_⟩ | refine ⟨_, And.intro (a := I64 _) ?_ ⟨rfl, rfl⟩, ?_⟩ | refine ⟨_, _, ⟨rfl, rfl⟩, ?_⟩ | refine ⟨_, (fun _ => ⟨rfl, rfl⟩), ?_⟩ | refine And.intro (a := chkPend _ _ _ _ _ _) ?_ ?_ | refine And.intro (a := chkPast _ _ _ _ _ _ _ _) ?_ ?_ | refine ⟨⟨rfl, rfl⟩, ?_⟩ | refine And.intro (And.intro rfl rfl) ?_ | refine ⟨True.intro, ?_⟩ | refine ⟨_, ⟨_, rfl, ?_, rfl, rfl, rfl⟩, ?_⟩ | refine ⟨_, rfl, ?_, rfl, ?_⟩ | refine ⟨_, (fun _ => rfl), rfl, ?_⟩ | refine ⟨(fun _ => rfl), ?_⟩ | refine ⟨rfl, ?_⟩ | refine Opt.a ?_ | fail)
  · have h0 : e = 0 := by
      have h : (!decide (e = 0)) = false := by assumption
      simpa using h
    subst h0
    rw [if_neg (by simp)] at hone
    repeat' (first | exact True.intro | refine ⟨_, LeL.refl _, ?_⟩ | refine ⟨_, _, _, LeL.refl _, ?_⟩ | (refine fun (b : Bool) hb => ?_; cases b <;> (first | exact absurd hb (by decide) | exact Bool.noConfusion (show true = false from hb) | exact Bool.noConfusion (show false = true from hb) | skip)) | (refine fun (hl : _ ≤ MAXL) => ?_) | refine And.intro (a := I64 _) ?_ ?_ | refine And.intro (a := _ ≤ 140737488355328) ?_ ?_ | refine ⟨_, ⟨rfl, rfl⟩, ?_⟩ | refine ⟨_, And.intro (a := I64 _) ?_ ⟨rfl, rfl⟩, ?_⟩ | refine ⟨_, _, ⟨rfl, rfl⟩, ?_⟩ | refine ⟨_, (fun _ => ⟨rfl, rfl⟩), ?_⟩ | refine And.intro (a := chkPend _ _ _ _ _ _) ?_ ?_ | refine And.intro (a := chkPast _ _ _ _ _ _ _ _) ?_ ?_ | refine ⟨⟨rfl, rfl⟩, ?_⟩ | refine And.intro (And.intro rfl rfl) ?_ | refine ⟨True.intro, ?_⟩ | refine ⟨_, ⟨_, rfl, ?_, rfl, rfl, rfl⟩, ?_⟩ | refine ⟨_, rfl, ?_, rfl, ?_⟩ | refine ⟨_, (fun _ => rfl), rfl, ?_⟩ | refine ⟨(fun _ => rfl), ?_⟩ | refine ⟨rfl, ?_⟩ | refine Opt.a ?_ | fail)
    refine ⟨b, rfl, ?_⟩
    unfold lineOf
    by_cases hb : 4000 < b.length
    · rw [if_pos hb] at hone ⊢
      repeat' (first | exact True.intro | refine ⟨_, LeL.refl _, ?_⟩ | refine ⟨_, _, _, LeL.refl _, ?_⟩ | (refine fun (b : Bool) hb => ?_; cases b <;> (first | exact absurd hb (by decide) | exact Bool.noConfusion (show true = false from hb) | exact Bool.noConfusion (show false = true from hb) | skip)) | (refine fun (hl : _ ≤ MAXL) => ?_) | refine And.intro (a := I64 _) ?_ ?_ | refine And.intro (a := _ ≤ 140737488355328) ?_ ?_ | refine ⟨_, ⟨rfl, rfl⟩, ?_⟩ | refine ⟨_, And.intro (a := I64 _) ?_ ⟨rfl, rfl⟩, ?_⟩ | refine ⟨_, _, ⟨rfl, rfl⟩, ?_⟩ | refine ⟨_, (fun _ => ⟨rfl, rfl⟩), ?_⟩ | refine And.intro (a := chkPend _ _ _ _ _ _) ?_ ?_ | refine And.intro (a := chkPast _ _ _ _ _ _ _ _) ?_ ?_ | refine ⟨⟨rfl, rfl⟩, ?_⟩ | refine And.intro (And.intro rfl rfl) ?_ | refine ⟨True.intro, ?_⟩ | refine ⟨_, ⟨_, rfl, ?_, rfl, rfl, rfl⟩, ?_⟩ | refine ⟨_, rfl, ?_, rfl, ?_⟩ | refine ⟨_, (fun _ => rfl), rfl, ?_⟩ | refine ⟨(fun _ => rfl), ?_⟩ | refine ⟨rfl, ?_⟩ | refine Opt.a ?_ | fail)
      exact ⟨_, byteV, hone _ rfl⟩
    rw [if_neg hb] at hone ⊢
    repeat' (first | exact True.intro | refine ⟨_, LeL.refl _, ?_⟩ | refine ⟨_, _, _, LeL.refl _, ?_⟩ | (refine fun (b : Bool) hb => ?_; cases b <;> (first | exact absurd hb (by decide) | exact Bool.noConfusion (show true = false from hb) | exact Bool.noConfusion (show false = true from hb) | skip)) | (refine fun (hl : _ ≤ MAXL) => ?_) | refine And.intro (a := I64 _) ?_ ?_ | refine And.intro (a := _ ≤ 140737488355328) ?_ ?_ | refine ⟨_, ⟨rfl, rfl⟩, ?_⟩ | refine ⟨_, And.intro (a := I64 _) ?_ ⟨rfl, rfl⟩, ?_⟩ | refine ⟨_, _, ⟨rfl, rfl⟩, ?_⟩ | refine ⟨_, (fun _ => ⟨rfl, rfl⟩), ?_⟩ | refine And.intro (a := chkPend _ _ _ _ _ _) ?_ ?_ | refine And.intro (a := chkPast _ _ _ _ _ _ _ _) ?_ ?_ | refine ⟨⟨rfl, rfl⟩, ?_⟩ | refine And.intro (And.intro rfl rfl) ?_ | refine ⟨True.intro, ?_⟩ | refine ⟨_, ⟨_, rfl, ?_, rfl, rfl, rfl⟩, ?_⟩ | refine ⟨_, rfl, ?_, rfl, ?_⟩ | refine ⟨_, (fun _ => rfl), rfl, ?_⟩ | refine ⟨(fun _ => rfl), ?_⟩ | refine ⟨rfl, ?_⟩ | refine Opt.a ?_ | fail)
    have hll := linesOf_len b
    refine ⟨c, linesOf b, rfl, ⟨he, by omega, fun s hs => by have := linesOf_el b s hs; omega⟩, ?_⟩
    repeat' (first | exact True.intro | refine ⟨_, LeL.refl _, ?_⟩ | refine ⟨_, _, _, LeL.refl _, ?_⟩ | (refine fun (b : Bool) hb => ?_; cases b <;> (first | exact absurd hb (by decide) | exact Bool.noConfusion (show true = false from hb) | exact Bool.noConfusion (show false = true from hb) | skip)) | (refine fun (hl : _ ≤ MAXL) => ?_) | refine And.intro (a := I64 _) ?_ ?_ | refine And.intro (a := _ ≤ 140737488355328) ?_ ?_ | refine ⟨_, ⟨rfl, rfl⟩, ?_⟩ | refine ⟨_, And.intro (a := I64 _) ?_ ⟨rfl, rfl⟩, ?_⟩ | refine ⟨_, _, ⟨rfl, rfl⟩, ?_⟩ | refine ⟨_, (fun _ => ⟨rfl, rfl⟩), ?_⟩ | refine And.intro (a := chkPend _ _ _ _ _ _) ?_ ?_ | refine And.intro (a := chkPast _ _ _ _ _ _ _ _) ?_ ?_ | refine ⟨⟨rfl, rfl⟩, ?_⟩ | refine And.intro (And.intro rfl rfl) ?_ | refine ⟨True.intro, ?_⟩ | refine ⟨_, ⟨_, rfl, ?_, rfl, rfl, rfl⟩, ?_⟩ | refine ⟨_, rfl, ?_, rfl, ?_⟩ | refine ⟨_, (fun _ => rfl), rfl, ?_⟩ | refine ⟨(fun _ => rfl), ?_⟩ | refine ⟨rfl, ?_⟩ | refine Opt.a ?_ | fail)
    have hp := linesC_put he (linesOf b) (by omega)
    have hw := whole_len b
    unfold whole at hw
    refine ⟨linesC c (linesOf b), rfl, by omega, ?_⟩
    repeat' (first | exact True.intro | refine ⟨_, LeL.refl _, ?_⟩ | refine ⟨_, _, _, LeL.refl _, ?_⟩ | (refine fun (b : Bool) hb => ?_; cases b <;> (first | exact absurd hb (by decide) | exact Bool.noConfusion (show true = false from hb) | exact Bool.noConfusion (show false = true from hb) | skip)) | (refine fun (hl : _ ≤ MAXL) => ?_) | refine And.intro (a := I64 _) ?_ ?_ | refine And.intro (a := _ ≤ 140737488355328) ?_ ?_ | refine ⟨_, ⟨rfl, rfl⟩, ?_⟩ | refine ⟨_, And.intro (a := I64 _) ?_ ⟨rfl, rfl⟩, ?_⟩ | refine ⟨_, _, ⟨rfl, rfl⟩, ?_⟩ | refine ⟨_, (fun _ => ⟨rfl, rfl⟩), ?_⟩ | refine And.intro (a := chkPend _ _ _ _ _ _) ?_ ?_ | refine And.intro (a := chkPast _ _ _ _ _ _ _ _) ?_ ?_ | refine ⟨⟨rfl, rfl⟩, ?_⟩ | refine And.intro (And.intro rfl rfl) ?_ | refine ⟨True.intro, ?_⟩ | refine ⟨_, ⟨_, rfl, ?_, rfl, rfl, rfl⟩, ?_⟩ | refine ⟨_, rfl, ?_, rfl, ?_⟩ | refine ⟨_, (fun _ => rfl), rfl, ?_⟩ | refine ⟨(fun _ => rfl), ?_⟩ | refine ⟨rfl, ?_⟩ | refine Opt.a ?_ | fail)
    exact hone _ rfl
  · have h0 : ¬ e = 0 := by
      have h : (!decide (e = 0)) = true := by assumption
      simpa using h
    rw [if_pos h0] at hone
    repeat' (first | exact True.intro | refine ⟨_, LeL.refl _, ?_⟩ | refine ⟨_, _, _, LeL.refl _, ?_⟩ | (refine fun (b : Bool) hb => ?_; cases b <;> (first | exact absurd hb (by decide) | exact Bool.noConfusion (show true = false from hb) | exact Bool.noConfusion (show false = true from hb) | skip)) | (refine fun (hl : _ ≤ MAXL) => ?_) | refine And.intro (a := I64 _) ?_ ?_ | refine And.intro (a := _ ≤ 140737488355328) ?_ ?_ | refine ⟨_, ⟨rfl, rfl⟩, ?_⟩ | refine ⟨_, And.intro (a := I64 _) ?_ ⟨rfl, rfl⟩, ?_⟩ | refine ⟨_, _, ⟨rfl, rfl⟩, ?_⟩ | refine ⟨_, (fun _ => ⟨rfl, rfl⟩), ?_⟩ | refine And.intro (a := chkPend _ _ _ _ _ _) ?_ ?_ | refine And.intro (a := chkPast _ _ _ _ _ _ _ _) ?_ ?_ | refine ⟨⟨rfl, rfl⟩, ?_⟩ | refine And.intro (And.intro rfl rfl) ?_ | refine ⟨True.intro, ?_⟩ | refine ⟨_, ⟨_, rfl, ?_, rfl, rfl, rfl⟩, ?_⟩ | refine ⟨_, rfl, ?_, rfl, ?_⟩ | refine ⟨_, (fun _ => rfl), rfl, ?_⟩ | refine ⟨(fun _ => rfl), ?_⟩ | refine ⟨rfl, ?_⟩ | refine Opt.a ?_ | fail)
    exact ⟨_, byteV, hone _ rfl⟩
end Gv
namespace Gv
variable [Glob] [Laid]
theorem linesOfR_ca : callable Tryz.prog 38 = true := by kernel_rfl
def linesOfR_S : Spec := fun args K => ∃ (b : Bs), args = [.sl byteV b] ∧ b.length ≤ 1000000 ∧ K (.sl strV (linesOf b))
noncomputable def linesOfR_lib : List (Nat × Spec) := [(105, splitS_S)]
noncomputable def linesOfR_fns : List (Nat × FnI) := []
noncomputable def linesOfR_prims : List (Nat × PSpec) := []
theorem linesOfR_E : EnvOK ⟨Tryz.prog, tys, linesOfR_lib, linesOfR_fns, linesOfR_prims, []⟩ := env_ok mixed0 tys0 (.cons splitS_ca splitS_ok .nil) .nil .nil rfl
set_option maxHeartbeats 4000000 in
theorem linesOfR_ok : Pure Tryz.prog 38 linesOfR_S := by
  refine pure_by linesOfR_E 6 (fi := {fn := Tryz.f38, hooks := [], draws := []}) ⟨Tryz.func38, by kernel_rfl, by kernel_rfl⟩ ?_
  rintro _ K ⟨b, rfl, hz, hK⟩
  replace hK : ∀ r, r = .sl strV (linesOf b) → K r := fun r h => h ▸ hK
  have hsl := split_lines b
  have hsn : 0 < (Lib.split b [10]).length := List.length_pos_iff.2 (split_ne b [10])
  obtain ⟨L, hL⟩ : ∃ L, Lib.split b [10] = L := ⟨_, rfl⟩
  refine ⟨b, fun _ => rfl, rfl, ?_⟩
  refine ⟨b, [10], rfl, ⟨by omega, by decide⟩, ?_⟩
  rw [hL] at hsl hsn ⊢
  repeat' (first | exact True.intro | refine ⟨_, LeL.refl _, ?_⟩ | refine ⟨_, _, _, LeL.refl _, ?_⟩ | (refine fun (b : Bool) hb => ?_; cases b <;> (first | exact absurd hb (by decide) | exact Bool.noConfusion (show true = false from hb) | exact Bool.noConfusion (show false = true from hb) | skip)) | (refine fun (hl : _ ≤ MAXL) => ?_) | refine And.intro (a := I64 _) ?_ ?_ | refine And.intro (a := _ ≤ 140737488355328) ?_ ?_ | refine ⟨_, ⟨rfl, rfl⟩, ?_⟩ | refine ⟨_, And.intro (a := I64 _) ?_ ⟨rfl, rfl⟩, ?_⟩ | refine ⟨_, _, ⟨rfl, rfl⟩, ?_⟩ | refine ⟨_, (fun _ => ⟨rfl, rfl⟩), ?_⟩ | refine And.intro (a := chkPend _ _ _ _ _ _) ?_ ?_ | refine And.intro (a := chkPast _ _ _ _ _ _ _ _) ?_ ?_ | refine ⟨⟨rfl, rfl⟩, ?_⟩ | refine And.intro (And.intro rfl rfl) ?_ | refine ⟨True.intro, ?_⟩ | refine ⟨_, ⟨_, rfl, ?_, rfl, rfl, rfl⟩, ?_⟩ | refine ⟨_, rfl, ?_, rfl, ?_⟩ | refine ⟨_, (fun _ => rfl), rfl, ?_⟩ | refine ⟨(fun _ => rfl), ?_⟩ | refine ⟨rfl, ?_⟩ | refine Opt.a ?_ | fail)
  · (first | omega | (unfold I64; omega) | (simp only [List.length_append, List.length_map, List.length_cons, List.length_nil, Nat.mul_one, Int.ofNat_eq_natCast] at *; omega) | (dsimp only at *; omega) | (unfold I64; dsimp only at *; omega) | (unfold I64; grind) | grind)
  refine ⟨L.length - 1, by omega, by omega, ?_⟩
  repeat' (first | exact True.intro | refine ⟨_, LeL.refl _, ?_⟩ | refine ⟨_, _, _, LeL.refl _, ?_⟩ | (refine fun (b : Bool) hb => ?_; cases b <;> (first | exact absurd hb (by decide) | exact Bool.noConfusion (show true = false from hb) | exact Bool.noConfusion (show false = true from hb) | skip)) | (refine fun (hl : _ ≤ MAXL) => ?_) | refine And.intro (a := I64 _) ?_ ?_ | refine And.intro (a := _ ≤ 140737488355328) ?_ ?_ | refine ⟨_, ⟨rfl, rfl⟩, ?_⟩ | refine ⟨_, And.intro (a := I64 _) ?_ ⟨rfl, rfl⟩, ?_⟩ | refine ⟨_, _, ⟨rfl, rfl⟩, ?_⟩ | refine ⟨_, (fun _ => ⟨rfl, rfl⟩), ?_⟩ | refine And.intro (a := chkPend _ _ _ _ _ _) ?_ ?_ | refine And.intro (a := chkPast _ _ _ _ _ _ _ _) ?_ ?_ | refine ⟨⟨rfl, rfl⟩, ?_⟩ | refine And.intro (And.intro rfl rfl) ?_ | refine ⟨True.intro, ?_⟩ | refine ⟨_, ⟨_, rfl, ?_, rfl, rfl, rfl⟩, ?_⟩ | refine ⟨_, rfl, ?_, rfl, ?_⟩ | refine ⟨_, (fun _ => rfl), rfl, ?_⟩ | refine ⟨(fun _ => rfl), ?_⟩ | refine ⟨rfl, ?_⟩ | refine Opt.a ?_ | fail)
  · have h : ¬ L[L.length - 1] = [] := of_decide_eq_false (by assumption)
    conv => whnf
    refine hK _ ?_
    rw [← hsl]
    unfold dropE
    rw [if_neg (by rw [List.getLast?_eq_getElem?, List.getElem?_eq_getElem (by omega)]; simpa using h)]
  · (first | omega | (unfold I64; omega) | (simp only [List.length_append, List.length_map, List.length_cons, List.length_nil, Nat.mul_one, Int.ofNat_eq_natCast] at *; omega) | (dsimp only at *; omega) | (unfold I64; dsimp only at *; omega) | (unfold I64; grind) | grind)
  have h : L[L.length - 1] = [] := of_decide_eq_true (by assumption)
  refine ⟨L.length - 1, by omega, by omega, ?_⟩
  repeat' (first | exact True.intro | refine ⟨_, LeL.refl _, ?_⟩ | refine ⟨_, _, _, LeL.refl _, ?_⟩ | (refine fun (b : Bool) hb => ?_; cases b <;> (first | exact absurd hb (by decide) | exact Bool.noConfusion (show true = false from hb) | exact Bool.noConfusion (show false = true from hb) | skip)) | (refine fun (hl : _ ≤ MAXL) => ?_) | refine And.intro (a := I64 _) ?_ ?_ | refine And.intro (a := _ ≤ 140737488355328) ?_ ?_ | refine ⟨_, ⟨rfl, rfl⟩, ?_⟩ | refine ⟨_, And.intro (a := I64 _) ?_ ⟨rfl, rfl⟩, ?_⟩ | refine ⟨_, _, ⟨rfl, rfl⟩, ?_⟩ | refine ⟨_, (fun _ => ⟨rfl, rfl⟩), ?_⟩ | refine And.intro (a := chkPend _ _ _ _ _ _) ?_ ?_ | refine And.intro (a := chkPast _ _ _ _ _ _ _ _) ?_ ?_ | refine ⟨⟨rfl, rfl⟩, ?_⟩ | refine And.intro (And.intro rfl rfl) ?_ | refine ⟨True.intro, ?_⟩ | refine ⟨_, ⟨_, rfl, ?_, rfl, rfl, rfl⟩, ?_⟩ | refine ⟨_, rfl, ?_, rfl, ?_⟩ | refine ⟨_, (fun _ => rfl), rfl, ?_⟩ | refine ⟨(fun _ => rfl), ?_⟩ | refine ⟨rfl, ?_⟩ | refine Opt.a ?_ | fail)
  refine hK _ ?_
  rw [← hsl]
  unfold dropE
  rw [if_pos (by rw [List.getLast?_eq_getElem?, List.getElem?_eq_getElem (by omega), h]), List.dropLast_eq_take]
end Gv
namespace Gv
variable [Glob] [Laid]
theorem joinS_ca : callable Tryz.prog 103 = true := by kernel_rfl
def joinS_S : Spec := fun args K => ∃ (l : List Bs) (sep : Bs), args = [.sl strV l, .str sep] ∧ (l.length ≤ 140737488355328 ∧ (Lib.join l sep).length ≤ 140737488355328) ∧ K (.str (Lib.join l sep))
set_option maxHeartbeats 4000000 in
theorem joinS_ok : Pure Tryz.prog 103 joinS_S := by
  intro w m args us K hm hg hv hT
  obtain ⟨l, sep, rfl, ⟨h1, h2⟩, hK⟩ := hT
  obtain ⟨a, b, rfl, ha, hb⟩ := args2 hv.1 hv.2
  obtain ⟨p, c, rfl, hlc, hc, hp⟩ := strs_open ha hm
  obtain ⟨rfl, -⟩ := vr_str hb
  by_cases hl : l = []
  · subst hl
    refine (Tryz.strings_Join_none p c (ba sep) w).mono fun e w' ⟨he, hw⟩ => ?_
    subst hw
    exact ⟨_, _, he, Bel.refl _ _, hK, .str (s := []) (Nat.zero_le _)⟩
  · obtain ⟨bk, o, rfl, hbk, hx, hx2⟩ := hp hl
    have e1 : (l.map ba).map (fun x => x.data.toList) = l := by
      rw [List.map_map]
      conv => rhs; rw [← List.map_id l]
      rfl
    have e2 : (l.map ba).length = l.length := List.length_map ..
    have := Tryz.strings_Join bk o c (l.map ba) (ba sep) w (fun j x hj => by
      rw [List.getElem?_map] at hj
      obtain ⟨y, hy, rfl⟩ := Option.map_eq_some_iff.1 hj
      exact hx j y hy) hbk (by rw [e2]; exact h1) (by rw [e2]; exact hlc) (by rw [e1]; exact h2)
    rw [e1, e2] at this
    refine this.mono fun e w' ⟨he, hw⟩ => ?_
    exact ⟨_, _, he, Bel.of_below hw, hK, .str (by have := h2; unfold MAXL; show (Lib.join l sep).length ≤ _; omega)⟩
end Gv
namespace Gv
variable [Glob] [Laid]
theorem bytesOfR_ca : callable Tryz.prog 36 = true := by kernel_rfl
def bytesOfR_S : Spec := fun args K => ∃ (l : List Bs), args = [.sl strV l] ∧ (put l).length ≤ 1000000 ∧ K (.sl byteV (put l))
noncomputable def bytesOfR_lib : List (Nat × Spec) := [(103, joinS_S)]
noncomputable def bytesOfR_fns : List (Nat × FnI) := []
noncomputable def bytesOfR_prims : List (Nat × PSpec) := []
theorem bytesOfR_E : EnvOK ⟨Tryz.prog, tys, bytesOfR_lib, bytesOfR_fns, bytesOfR_prims, []⟩ := env_ok mixed0 tys0 (.cons joinS_ca joinS_ok .nil) .nil .nil rfl
set_option maxHeartbeats 4000000 in
theorem bytesOfR_ok : Pure Tryz.prog 36 bytesOfR_S := by
  refine pure_by bytesOfR_E 6 (fi := {fn := Tryz.f36, hooks := [], draws := []}) ⟨Tryz.func36, by kernel_rfl, by kernel_rfl⟩ ?_
  rintro _ K ⟨l, rfl, hz, hK⟩
  replace hK : ∀ r, r = .sl byteV (put l) → K r := fun r h => h ▸ hK
  have hj := join_put l
  have hjl : (Lib.join l [10]).length ≤ (put l).length := by
    rw [← hj]
    split
    · simp
    · exact Nat.le_refl _
  have hll := put_len (l := l) (n := 1000000) hz
  refine ⟨l, [10], rfl, ⟨by omega, by omega⟩, ?_⟩
  repeat' (first | exact True.intro | refine ⟨_, LeL.refl _, ?_⟩ | refine ⟨_, _, _, LeL.refl _, ?_⟩ | (refine fun (b : Bool) hb => ?_; cases b <;> (first | exact absurd hb (by decide) | exact Bool.noConfusion (show true = false from hb) | exact Bool.noConfusion (show false = true from hb) | skip)) | (refine fun (hl : _ ≤ MAXL) => ?_) | refine And.intro (a := I64 _) ?_ ?_ | refine And.intro (a := _ ≤ 140737488355328) ?_ ?_ | refine ⟨_, ⟨rfl, rfl⟩, ?_⟩ | refine ⟨_, And.intro (a := I64 _) ?_ ⟨rfl, rfl⟩, ?_⟩ | refine ⟨_, _, ⟨rfl, rfl⟩, ?_⟩ | refine ⟨_, (fun _ => ⟨rfl, rfl⟩), ?_⟩ | refine And.intro (a := chkPend _ _ _ _ _ _) ?_ ?_ | refine And.intro (a := chkPast _ _ _ _ _ _ _ _) ?_ ?_ | refine ⟨⟨rfl, rfl⟩, ?_⟩ | refine And.intro (And.intro rfl rfl) ?_ | refine ⟨True.intro, ?_⟩ | refine ⟨_, ⟨_, rfl, ?_, rfl, rfl, rfl⟩, ?_⟩ | refine ⟨_, rfl, ?_, rfl, ?_⟩ | refine ⟨_, (fun _ => rfl), rfl, ?_⟩ | refine ⟨(fun _ => rfl), ?_⟩ | refine ⟨rfl, ?_⟩ | refine Opt.a ?_ | fail)
  · omega
  · conv => whnf
    refine hK _ ?_
    rw [← hj, if_neg (by have := of_decide_eq_false (by assumption : decide ((0 : Int) < (l.length : Int)) = false); omega)]
  all_goals have hp : 0 < l.length := by have := of_decide_eq_true (by assumption : decide ((0 : Int) < (l.length : Int)) = true); omega
  rw [if_pos hp] at hj
  conv => whnf
  refine ⟨by show (Lib.join l [10]).length + 1 ≤ MAXL; unfold MAXL; omega, ?_⟩
  repeat' (first | exact True.intro | refine ⟨_, LeL.refl _, ?_⟩ | refine ⟨_, _, _, LeL.refl _, ?_⟩ | (refine fun (b : Bool) hb => ?_; cases b <;> (first | exact absurd hb (by decide) | exact Bool.noConfusion (show true = false from hb) | exact Bool.noConfusion (show false = true from hb) | skip)) | (refine fun (hl : _ ≤ MAXL) => ?_) | refine And.intro (a := I64 _) ?_ ?_ | refine And.intro (a := _ ≤ 140737488355328) ?_ ?_ | refine ⟨_, ⟨rfl, rfl⟩, ?_⟩ | refine ⟨_, And.intro (a := I64 _) ?_ ⟨rfl, rfl⟩, ?_⟩ | refine ⟨_, _, ⟨rfl, rfl⟩, ?_⟩ | refine ⟨_, (fun _ => ⟨rfl, rfl⟩), ?_⟩ | refine And.intro (a := chkPend _ _ _ _ _ _) ?_ ?_ | refine And.intro (a := chkPast _ _ _ _ _ _ _ _) ?_ ?_ | refine ⟨⟨rfl, rfl⟩, ?_⟩ | refine And.intro (And.intro rfl rfl) ?_ | refine ⟨True.intro, ?_⟩ | refine ⟨_, ⟨_, rfl, ?_, rfl, rfl, rfl⟩, ?_⟩ | refine ⟨_, rfl, ?_, rfl, ?_⟩ | refine ⟨_, (fun _ => rfl), rfl, ?_⟩ | refine ⟨(fun _ => rfl), ?_⟩ | refine ⟨rfl, ?_⟩ | refine Opt.a ?_ | fail)
  · show (Lib.join l [10] ++ [10]).length ≤ 140737488355328
    rw [hj]
    omega
  conv => whnf
  refine hK _ ?_
  show V.sl byteV (Lib.join l [10] ++ [10]) = _
  rw [hj]
end Gv
namespace Gv
variable [Glob] [Laid]
theorem wholeR_ca : callable Tryz.prog 68 = true := by kernel_rfl
def wholeR_S : Spec := fun args K => ∃ (b : Bs), args = [.sl byteV b] ∧ b.length ≤ 100000 ∧ K (.sl byteV (whole b))
noncomputable def wholeR_lib : List (Nat × Spec) := [(38, linesOfR_S), (36, bytesOfR_S)]
noncomputable def wholeR_fns : List (Nat × FnI) := []
noncomputable def wholeR_prims : List (Nat × PSpec) := []
theorem wholeR_E : EnvOK ⟨Tryz.prog, tys, wholeR_lib, wholeR_fns, wholeR_prims, []⟩ := env_ok mixed0 tys0 (.cons linesOfR_ca linesOfR_ok (.cons bytesOfR_ca bytesOfR_ok .nil)) .nil .nil rfl
set_option maxHeartbeats 4000000 in
theorem wholeR_ok : Pure Tryz.prog 68 wholeR_S := by
  refine pure_by wholeR_E 6 (fi := {fn := Tryz.f68, hooks := [], draws := []}) ⟨Tryz.func68, by kernel_rfl, by kernel_rfl⟩ ?_
  rintro _ K ⟨b, rfl, hz, hK⟩
  replace hK : ∀ r, r = .sl byteV (whole b) → K r := fun r h => h ▸ hK
  have hw := whole_len b
  unfold whole at hw
  repeat' (first | exact True.intro | refine ⟨_, LeL.refl _, ?_⟩ | refine ⟨_, _, _, LeL.refl _, ?_⟩ | (refine fun (b : Bool) hb => ?_; cases b <;> (first | exact absurd hb (by decide) | exact Bool.noConfusion (show true = false from hb) | exact Bool.noConfusion (show false = true from hb) | skip)) | (refine fun (hl : _ ≤ MAXL) => ?_) | refine And.intro (a := I64 _) ?_ ?_ | refine And.intro (a := _ ≤ 140737488355328) ?_ ?_ | refine ⟨_, ⟨rfl, rfl⟩, ?_⟩ | refine ⟨_, And.intro (a := I64 _) ?_ ⟨rfl, rfl⟩, ?_⟩ | refine ⟨_, _, ⟨rfl, rfl⟩, ?_⟩ | refine ⟨_, (fun _ => ⟨rfl, rfl⟩), ?_⟩ | refine And.intro (a := chkPend _ _ _ _ _ _) ?_ ?_ | refine And.intro (a := chkPast _ _ _ _ _ _ _ _) ?_ ?_ | refine ⟨⟨rfl, rfl⟩, ?_⟩ | refine And.intro (And.intro rfl rfl) ?_ | refine ⟨True.intro, ?_⟩ | refine ⟨_, ⟨_, rfl, ?_, rfl, rfl, rfl⟩, ?_⟩ | refine ⟨_, rfl, ?_, rfl, ?_⟩ | refine ⟨_, (fun _ => rfl), rfl, ?_⟩ | refine ⟨(fun _ => rfl), ?_⟩ | refine ⟨rfl, ?_⟩ | refine Opt.a ?_ | fail)
  refine ⟨b, rfl, by omega, ?_⟩
  repeat' (first | exact True.intro | refine ⟨_, LeL.refl _, ?_⟩ | refine ⟨_, _, _, LeL.refl _, ?_⟩ | (refine fun (b : Bool) hb => ?_; cases b <;> (first | exact absurd hb (by decide) | exact Bool.noConfusion (show true = false from hb) | exact Bool.noConfusion (show false = true from hb) | skip)) | (refine fun (hl : _ ≤ MAXL) => ?_) | refine And.intro (a := I64 _) ?_ ?_ | refine And.intro (a := _ ≤ 140737488355328) ?_ ?_ | refine ⟨_, ⟨rfl, rfl⟩, ?_⟩ | refine ⟨_, And.intro (a := I64 _) ?_ ⟨rfl, rfl⟩, ?_⟩ | refine ⟨_, _, ⟨rfl, rfl⟩, ?_⟩ | refine ⟨_, (fun _ => ⟨rfl, rfl⟩), ?_⟩ | refine And.intro (a := chkPend _ _ _ _ _ _) ?_ ?_ | refine And.intro (a := chkPast _ _ _ _ _ _ _ _) ?_ ?_ | refine ⟨⟨rfl, rfl⟩, ?_⟩ | refine And.intro (And.intro rfl rfl) ?_ | refine ⟨True.intro, ?_⟩ | refine ⟨_, ⟨_, rfl, ?_, rfl, rfl, rfl⟩, ?_⟩ | refine ⟨_, rfl, ?_, rfl, ?_⟩ | refine ⟨_, (fun _ => rfl), rfl, ?_⟩ | refine ⟨(fun _ => rfl), ?_⟩ | refine ⟨rfl, ?_⟩ | refine Opt.a ?_ | fail)
  refine ⟨linesOf b, rfl, by omega, ?_⟩
  repeat' (first | exact True.intro | refine ⟨_, LeL.refl _, ?_⟩ | refine ⟨_, _, _, LeL.refl _, ?_⟩ | (refine fun (b : Bool) hb => ?_; cases b <;> (first | exact absurd hb (by decide) | exact Bool.noConfusion (show true = false from hb) | exact Bool.noConfusion (show false = true from hb) | skip)) | (refine fun (hl : _ ≤ MAXL) => ?_) | refine And.intro (a := I64 _) ?_ ?_ | refine And.intro (a := _ ≤ 140737488355328) ?_ ?_ | refine ⟨_, ⟨rfl, rfl⟩, ?_⟩ | refine ⟨_, And.intro (a := I64 _) ?_ ⟨rfl, rfl⟩, ?_⟩ | refine ⟨_, _, ⟨rfl, rfl⟩, ?_⟩ | refine ⟨_, (fun _ => ⟨rfl, rfl⟩), ?_⟩ | refine And.intro (a := chkPend _ _ _ _ _ _) ?_ ?_ | refine And.intro (a := chkPast _ _ _ _ _ _ _ _) ?_ ?_ | refine ⟨⟨rfl, rfl⟩, ?_⟩ | refine And.intro (And.intro rfl rfl) ?_ | refine ⟨True.intro, ?_⟩ | refine ⟨_, ⟨_, rfl, ?_, rfl, rfl, rfl⟩, ?_⟩ | refine ⟨_, rfl, ?_, rfl, ?_⟩ | refine ⟨_, (fun _ => rfl), rfl, ?_⟩ | refine ⟨(fun _ => rfl), ?_⟩ | refine ⟨rfl, ?_⟩ | refine Opt.a ?_ | fail)
  exact hK _ rfl
end Gv
namespace Gv
variable [Glob] [Laid]
theorem equalB_ca : callable Tryz.prog 24 = true := by kernel_rfl
def equalB_S : Spec := fun args K => ∃ a b : List UInt8, args = [.sl byteV a, .sl byteV b] ∧ K (.bool (decide (a = b)))
noncomputable def equalB_lib : List (Nat × Spec) := []
noncomputable def equalB_fns : List (Nat × FnI) := []
noncomputable def equalB_prims : List (Nat × PSpec) := []
theorem equalB_E : EnvOK ⟨Tryz.prog, tys, equalB_lib, equalB_fns, equalB_prims, []⟩ := env_ok mixed0 tys0 .nil .nil .nil rfl
set_option maxHeartbeats 4000000 in
theorem equalB_ok : Pure Tryz.prog 24 equalB_S := by
  refine pure_by equalB_E 6 (fi := {fn := Tryz.f24, hooks := [], draws := [(6, [0, 0, 3, 7, 0, 0, 48, 112, 255])]}) ⟨Tryz.func24, by kernel_rfl, by kernel_rfl⟩ ?_
  rintro _ K ⟨x, y, rfl, hK⟩
  replace hK : ∀ r, r = .bool (decide (x = y)) → K r := fun r h => h ▸ hK
  repeat' (first | exact True.intro | refine ⟨_, LeL.refl _, ?_⟩ | refine ⟨_, _, _, LeL.refl _, ?_⟩ | (refine fun (b : Bool) hb => ?_; cases b <;> (first | exact absurd hb (by decide) | exact Bool.noConfusion (show true = false from hb) | exact Bool.noConfusion (show false = true from hb) | skip)) | (refine fun (hl : _ ≤ MAXL) => ?_) | refine And.intro (a := I64 _) ?_ ?_ | refine And.intro (a := _ ≤ 140737488355328) ?_ ?_ | refine ⟨_, ⟨rfl, rfl⟩, ?_⟩ | refine ⟨_, And.intro (a := I64 _) ?_ ⟨rfl, rfl⟩, ?_⟩ | refine ⟨_, _, ⟨rfl, rfl⟩, ?_⟩ | refine ⟨_, (fun _ => ⟨rfl, rfl⟩), ?_⟩ | refine And.intro (a := chkPend _ _ _ _ _ _) ?_ ?_ | refine And.intro (a := chkPast _ _ _ _ _ _ _ _) ?_ ?_ | refine ⟨⟨rfl, rfl⟩, ?_⟩ | refine And.intro (And.intro rfl rfl) ?_ | refine ⟨True.intro, ?_⟩ | refine ⟨_, ⟨_, rfl, ?_, rfl, rfl, rfl⟩, ?_⟩ | refine ⟨_, rfl, ?_, rfl, ?_⟩ | refine ⟨_, (fun _ => rfl), rfl, ?_⟩ | refine ⟨(fun _ => rfl), ?_⟩ | refine ⟨rfl, ?_⟩ | refine Opt.a ?_ | fail)
  rotate_left
  · refine hK _ ?_
    congr 1
    grind
  conv => whnf
  refine loop_intro (σ := Nat) (fun i => [(0, .sl byteV x), (1, .sl byteV y), (12, .int .i64 x.length), (13, .int .i64 i), (4, .lit false)]) (fun _ => []) (fun i => i ≤ x.length ∧ x.take i = y.take i) (fun i => x.length - i) 0 (wk_sel [] rfl rfl trivial ?_) ⟨Nat.zero_le _, rfl⟩ ?_
  · (repeat' (first | exact True.intro | exact rfl | exact Or.inl rfl | exact Or.inr rfl | refine And.intro ?_ ?_ | fail))
  intro i ⟨hi, hI⟩
  repeat' (first | exact True.intro | refine ⟨_, LeL.refl _, ?_⟩ | refine ⟨_, _, _, LeL.refl _, ?_⟩ | (refine fun (b : Bool) hb => ?_; cases b <;> (first | exact absurd hb (by decide) | exact Bool.noConfusion (show true = false from hb) | exact Bool.noConfusion (show false = true from hb) | skip)) | (refine fun (hl : _ ≤ MAXL) => ?_) | refine And.intro (a := I64 _) ?_ ?_ | refine And.intro (a := _ ≤ 140737488355328) ?_ ?_ | refine ⟨_, ⟨rfl, rfl⟩, ?_⟩ | refine ⟨_, And.intro (a := I64 _) ?_ ⟨rfl, rfl⟩, ?_⟩ | refine ⟨_, _, ⟨rfl, rfl⟩, ?_⟩ | refine ⟨_, (fun _ => ⟨rfl, rfl⟩), ?_⟩ | refine And.intro (a := chkPend _ _ _ _ _ _) ?_ ?_ | refine And.intro (a := chkPast _ _ _ _ _ _ _ _) ?_ ?_ | refine ⟨⟨rfl, rfl⟩, ?_⟩ | refine And.intro (And.intro rfl rfl) ?_ | refine ⟨True.intro, ?_⟩ | refine ⟨_, ⟨_, rfl, ?_, rfl, rfl, rfl⟩, ?_⟩ | refine ⟨_, rfl, ?_, rfl, ?_⟩ | refine ⟨_, (fun _ => rfl), rfl, ?_⟩ | refine ⟨(fun _ => rfl), ?_⟩ | refine ⟨rfl, ?_⟩ | refine Opt.a ?_ | fail)
  · refine hK _ ?_
    congr 1
    have e : x = y := by
      have h1 : x.take i = x := List.take_of_length_le (by grind)
      have h2 : y.take i = y := List.take_of_length_le (by grind)
      rw [← h1, ← h2, hI]
    simp [e]
  · grind
  · grind
  · unfold I64; grind
  · refine ⟨i + 1, ?_, ⟨?_, ?_⟩, ?_⟩
    · refine wk_sel [] rfl rfl trivial ?_
      (repeat' (first | exact True.intro | exact rfl | exact Or.inl rfl | exact Or.inr rfl | refine And.intro ?_ ?_ | fail))
    · grind
    · have g1 : i < x.length := by grind
      have g2 : i < y.length := by grind
      rw [List.take_succ_eq_append_getElem g1, List.take_succ_eq_append_getElem g2, hI]
      have e : x[i].toNat = y[i].toNat := by grind
      rw [UInt8.toNat_inj.1 e]
    · grind
  · refine hK _ ?_
    congr 1
    grind
end Gv
namespace Gv
variable [Glob] [Laid] [Errs] [Nums]
theorem jWhole_ca : callable Tryz.prog 9 = true := by kernel_rfl
def jWhole_S : Spec := fun args K => ∃ (c : Cmd) (p : List Bs), args = [cmdV c, .sl blV p] ∧ (∀ b ∈ p, b.length ≤ 140737488355328) ∧ K (.bool true)
noncomputable def jWhole_lib : List (Nat × Spec) := [(60, spliced_S), (67, for_S), (62, small_S), (28, Do_S), (68, wholeR_S), (65, joinDo_S), (24, equalB_S)]
noncomputable def jWhole_fns : List (Nat × FnI) := []
noncomputable def jWhole_prims : List (Nat × PSpec) := []
theorem jWhole_E : EnvOK ⟨Tryz.prog, tys, jWhole_lib, jWhole_fns, jWhole_prims, []⟩ := env_ok mixed0 tys0 (.cons spliced_ca spliced_ok (.cons for_ca for_ok (.cons small_ca small_ok (.cons Do_ca Do_ok (.cons wholeR_ca wholeR_ok (.cons joinDo_ca joinDo_ok (.cons equalB_ca equalB_ok .nil))))))) .nil .nil rfl
set_option maxHeartbeats 8000000 in
theorem jWhole_ok : Pure Tryz.prog 9 jWhole_S := by
  refine pure_by jWhole_E 6 (fi := {fn := Tryz.f9, hooks := [17], draws := []}) ⟨Tryz.func9, by kernel_rfl, by kernel_rfl⟩ ?_
  rintro _ K ⟨c, p, rfl, hpb, hK⟩
  replace hK : ∀ r, r = .bool true → K r := fun r h => h ▸ hK
  refine ⟨c.kind, c.word, c.n, rfl, ?_⟩
  have hce : joinFor ⟨c.kind, c.word, c.n⟩ = if checkCmd c = 0 then (howFor c, 0) else (0, checkCmd c) := rfl
  rw [hce]
  by_cases hc : checkCmd c = 0
  rotate_left
  · rw [if_neg hc]
    obtain ⟨e, he⟩ : ∃ e, checkCmd c = e := ⟨_, rfl⟩
    rw [he] at hc ⊢
    refine ⟨rfl, ?_⟩
    repeat' (first | exact True.intro | refine ⟨_, LeL.refl _, ?_⟩ | refine ⟨_, _, _, LeL.refl _, ?_⟩ | (refine fun (b : Bool) hb => ?_; cases b <;> (first | exact absurd hb (by decide) | exact Bool.noConfusion (show true = false from hb) | exact Bool.noConfusion (show false = true from hb) | skip)) | (refine fun (hl : _ ≤ MAXL) => ?_) | refine And.intro (a := I64 _) ?_ ?_ | refine And.intro (a := _ ≤ 140737488355328) ?_ ?_ | refine ⟨_, ⟨rfl, rfl⟩, ?_⟩ | refine ⟨_, And.intro (a := I64 _) ?_ ⟨rfl, rfl⟩, ?_⟩ | refine ⟨_, _, ⟨rfl, rfl⟩, ?_⟩ | refine ⟨_, (fun _ => ⟨rfl, rfl⟩), ?_⟩ | refine And.intro (a := chkPend _ _ _ _ _ _) ?_ ?_ | refine And.intro (a := chkPast _ _ _ _ _ _ _ _) ?_ ?_ | refine ⟨⟨rfl, rfl⟩, ?_⟩ | refine And.intro (And.intro rfl rfl) ?_ | refine ⟨True.intro, ?_⟩ | refine ⟨_, ⟨_, rfl, ?_, rfl, rfl, rfl⟩, ?_⟩ | refine ⟨_, rfl, ?_, rfl, ?_⟩ | refine ⟨_, (fun _ => rfl), rfl, ?_⟩ | refine ⟨(fun _ => rfl), ?_⟩ | refine ⟨rfl, ?_⟩ | refine Opt.a ?_ | fail)
    all_goals first | exact absurd (by assumption : (!decide (e = 0)) = false) (by simp [hc]) | skip
    all_goals exact hK _ rfl
  rw [if_pos hc]
  refine ⟨rfl, ?_⟩
  repeat' (first | exact True.intro | refine ⟨_, LeL.refl _, ?_⟩ | refine ⟨_, _, _, LeL.refl _, ?_⟩ | (refine fun (b : Bool) hb => ?_; cases b <;> (first | exact absurd hb (by decide) | exact Bool.noConfusion (show true = false from hb) | exact Bool.noConfusion (show false = true from hb) | skip)) | (refine fun (hl : _ ≤ MAXL) => ?_) | refine And.intro (a := I64 _) ?_ ?_ | refine And.intro (a := _ ≤ 140737488355328) ?_ ?_ | refine ⟨_, ⟨rfl, rfl⟩, ?_⟩ | refine ⟨_, And.intro (a := I64 _) ?_ ⟨rfl, rfl⟩, ?_⟩ | refine ⟨_, _, ⟨rfl, rfl⟩, ?_⟩ | refine ⟨_, (fun _ => ⟨rfl, rfl⟩), ?_⟩ | refine And.intro (a := chkPend _ _ _ _ _ _) ?_ ?_ | refine And.intro (a := chkPast _ _ _ _ _ _ _ _) ?_ ?_ | refine ⟨⟨rfl, rfl⟩, ?_⟩ | refine And.intro (And.intro rfl rfl) ?_ | refine ⟨True.intro, ?_⟩ | refine ⟨_, ⟨_, rfl, ?_, rfl, rfl, rfl⟩, ?_⟩ | refine ⟨_, rfl, ?_, rfl, ?_⟩ | refine ⟨_, (fun _ => rfl), rfl, ?_⟩ | refine ⟨(fun _ => rfl), ?_⟩ | refine ⟨rfl, ?_⟩ | refine Opt.a ?_ | fail)
  rotate_left
  · exact hK _ rfl
  · exact hK _ rfl
  refine ⟨p, rfl, hpb, ?_⟩
  obtain ⟨q, hq⟩ : ∃ q, decide (p.flatten.length ≤ 2000) = q := ⟨_, rfl⟩
  rw [hq]
  cases q
  · repeat' (first | exact True.intro | refine ⟨_, LeL.refl _, ?_⟩ | refine ⟨_, _, _, LeL.refl _, ?_⟩ | (refine fun (b : Bool) hb => ?_; cases b <;> (first | exact absurd hb (by decide) | exact Bool.noConfusion (show true = false from hb) | exact Bool.noConfusion (show false = true from hb) | skip)) | (refine fun (hl : _ ≤ MAXL) => ?_) | refine And.intro (a := I64 _) ?_ ?_ | refine And.intro (a := _ ≤ 140737488355328) ?_ ?_ | refine ⟨_, ⟨rfl, rfl⟩, ?_⟩ | refine ⟨_, And.intro (a := I64 _) ?_ ⟨rfl, rfl⟩, ?_⟩ | refine ⟨_, _, ⟨rfl, rfl⟩, ?_⟩ | refine ⟨_, (fun _ => ⟨rfl, rfl⟩), ?_⟩ | refine And.intro (a := chkPend _ _ _ _ _ _) ?_ ?_ | refine And.intro (a := chkPast _ _ _ _ _ _ _ _) ?_ ?_ | refine ⟨⟨rfl, rfl⟩, ?_⟩ | refine And.intro (And.intro rfl rfl) ?_ | refine ⟨True.intro, ?_⟩ | refine ⟨_, ⟨_, rfl, ?_, rfl, rfl, rfl⟩, ?_⟩ | refine ⟨_, rfl, ?_, rfl, ?_⟩ | refine ⟨_, (fun _ => rfl), rfl, ?_⟩ | refine ⟨(fun _ => rfl), ?_⟩ | refine ⟨rfl, ?_⟩ | refine Opt.a ?_ | fail)
    exact hK _ rfl
  have h2000 : p.flatten.length ≤ 2000 := of_decide_eq_true hq
  have h5 : ¬ (5 : Int) < (p.length : Int) := of_decide_eq_false (by assumption)
  obtain ⟨hl1, hl2⟩ := whole_law hc p (by omega) h2000
  have hb2 : ∀ b ∈ p, b.length ≤ 2000 := fun b hb => Nat.le_trans (el_flat hb) h2000
  repeat' (first | exact True.intro | refine ⟨_, LeL.refl _, ?_⟩ | refine ⟨_, _, _, LeL.refl _, ?_⟩ | (refine fun (b : Bool) hb => ?_; cases b <;> (first | exact absurd hb (by decide) | exact Bool.noConfusion (show true = false from hb) | exact Bool.noConfusion (show false = true from hb) | skip)) | (refine fun (hl : _ ≤ MAXL) => ?_) | refine And.intro (a := I64 _) ?_ ?_ | refine And.intro (a := _ ≤ 140737488355328) ?_ ?_ | refine ⟨_, ⟨rfl, rfl⟩, ?_⟩ | refine ⟨_, And.intro (a := I64 _) ?_ ⟨rfl, rfl⟩, ?_⟩ | refine ⟨_, _, ⟨rfl, rfl⟩, ?_⟩ | refine ⟨_, (fun _ => ⟨rfl, rfl⟩), ?_⟩ | refine And.intro (a := chkPend _ _ _ _ _ _) ?_ ?_ | refine And.intro (a := chkPast _ _ _ _ _ _ _ _) ?_ ?_ | refine ⟨⟨rfl, rfl⟩, ?_⟩ | refine And.intro (And.intro rfl rfl) ?_ | refine ⟨True.intro, ?_⟩ | refine ⟨_, ⟨_, rfl, ?_, rfl, rfl, rfl⟩, ?_⟩ | refine ⟨_, rfl, ?_, rfl, ?_⟩ | refine ⟨_, (fun _ => rfl), rfl, ?_⟩ | refine ⟨(fun _ => rfl), ?_⟩ | refine ⟨rfl, ?_⟩ | refine Opt.a ?_ | fail)
  conv => whnf
  refine loop_live [2, 5, 44, 45] (σ := Nat × List Bs × Bs) (fun s => [(46, .int .i64 s.1), (7, .own 1), (8, .own 2)]) (fun s => [.box (cmdV c).cells, .row 1 (s.2.1.map blV), .row 1 (s.2.2.map byteV)]) (fun s => s.1 ≤ p.length ∧ s.2.1 = (p.take s.1).map (fun b => put (linesC c (linesOf b))) ∧ s.2.2 = ((p.take s.1).map whole).flatten) (fun s => p.length - s.1) (0, [], []) ?_
  conv => whnf
  refine ⟨(by (refine wk_auto ?_; refine Sel4.mk rfl rfl ?_ ?_ <;> (repeat' (first | exact True.intro | exact rfl | exact Or.inl rfl | exact Or.inr rfl | refine And.intro ?_ ?_ | fail)))), ⟨Nat.zero_le _, by simp, by simp⟩, fun s hs => ?_⟩
  obtain ⟨i, done, all⟩ := s
  obtain ⟨hi, hd, ha⟩ := hs
  dsimp only at hi hd ha
  repeat' (first | exact True.intro | refine ⟨_, LeL.refl _, ?_⟩ | refine ⟨_, _, _, LeL.refl _, ?_⟩ | (refine fun (b : Bool) hb => ?_; cases b <;> (first | exact absurd hb (by decide) | exact Bool.noConfusion (show true = false from hb) | exact Bool.noConfusion (show false = true from hb) | skip)) | (refine fun (hl : _ ≤ MAXL) => ?_) | refine And.intro (a := I64 _) ?_ ?_ | refine And.intro (a := _ ≤ 140737488355328) ?_ ?_ | refine ⟨_, ⟨rfl, rfl⟩, ?_⟩ | refine ⟨_, And.intro (a := I64 _) ?_ ⟨rfl, rfl⟩, ?_⟩ | refine ⟨_, _, ⟨rfl, rfl⟩, ?_⟩ | refine ⟨_, (fun _ => ⟨rfl, rfl⟩), ?_⟩ | refine And.intro (a := chkPend _ _ _ _ _ _) ?_ ?_ | refine And.intro (a := chkPast _ _ _ _ _ _ _ _) ?_ ?_ | refine ⟨⟨rfl, rfl⟩, ?_⟩ | refine And.intro (And.intro rfl rfl) ?_ | refine ⟨True.intro, ?_⟩ | refine ⟨_, ⟨_, rfl, ?_, rfl, rfl, rfl⟩, ?_⟩ | refine ⟨_, rfl, ?_, rfl, ?_⟩ | refine ⟨_, (fun _ => rfl), rfl, ?_⟩ | refine ⟨(fun _ => rfl), ?_⟩ | refine ⟨rfl, ?_⟩ | refine Opt.a ?_ | fail)
  · have hge : ¬ (i : Int) < (p.length : Int) := of_decide_eq_false (by assumption)
    have ei : p.take i = p := List.take_of_length_le (by omega)
    rw [ei] at hd ha
    conv => whnf
    refine join_live [2, 5, 7, 8, 13] (σ := Unit) (fun _ => []) (fun _ => [.box (cmdV c).cells, .row 1 (done.map blV), .row 1 (all.map byteV), .box (cmdV (if howFor c = 4 then c else zCmd)).cells]) (fun _ => True) ?_
    conv => whnf
    refine ⟨?_, fun _ _ => ?_⟩
    · repeat' (first | exact True.intro | refine ⟨_, LeL.refl _, ?_⟩ | refine ⟨_, _, _, LeL.refl _, ?_⟩ | (refine fun (b : Bool) hb => ?_; cases b <;> (first | exact absurd hb (by decide) | exact Bool.noConfusion (show true = false from hb) | exact Bool.noConfusion (show false = true from hb) | skip)) | (refine fun (hl : _ ≤ MAXL) => ?_) | refine And.intro (a := I64 _) ?_ ?_ | refine And.intro (a := _ ≤ 140737488355328) ?_ ?_ | refine ⟨_, ⟨rfl, rfl⟩, ?_⟩ | refine ⟨_, And.intro (a := I64 _) ?_ ⟨rfl, rfl⟩, ?_⟩ | refine ⟨_, _, ⟨rfl, rfl⟩, ?_⟩ | refine ⟨_, (fun _ => ⟨rfl, rfl⟩), ?_⟩ | refine And.intro (a := chkPend _ _ _ _ _ _) ?_ ?_ | refine And.intro (a := chkPast _ _ _ _ _ _ _ _) ?_ ?_ | refine ⟨⟨rfl, rfl⟩, ?_⟩ | refine And.intro (And.intro rfl rfl) ?_ | refine ⟨True.intro, ?_⟩ | refine ⟨_, ⟨_, rfl, ?_, rfl, rfl, rfl⟩, ?_⟩ | refine ⟨_, rfl, ?_, rfl, ?_⟩ | refine ⟨_, (fun _ => rfl), rfl, ?_⟩ | refine ⟨(fun _ => rfl), ?_⟩ | refine ⟨rfl, ?_⟩ | refine Opt.a ?_ | fail)
      · have h4 : ¬ howFor c = 4 := of_decide_eq_false (by assumption)
        have e : (if howFor c = 4 then c else zCmd) = zCmd := if_neg h4
        refine ⟨(), ?_, trivial⟩
        rw [e]
        exact (by (refine wk_auto ?_; refine Sel4.mk rfl rfl ?_ ?_ <;> (repeat' (first | exact True.intro | exact rfl | exact Or.inl rfl | exact Or.inr rfl | refine And.intro ?_ ?_ | fail))))
      · have h4 : howFor c = 4 := of_decide_eq_true (by assumption)
        have e : (if howFor c = 4 then c else zCmd) = c := if_pos h4
        refine ⟨(), ?_, trivial⟩
        rw [e]
        exact (by (refine wk_auto ?_; refine Sel4.mk rfl rfl ?_ ?_ <;> (repeat' (first | exact True.intro | exact rfl | exact Or.inl rfl | exact Or.inr rfl | refine And.intro ?_ ?_ | fail))))
    refine ⟨Bs, blV, done, LeL.refl _, ?_⟩
    refine ⟨howFor c, if howFor c = 4 then c else zCmd, done, rfl, ?_⟩
    rw [hd, hl1]
    repeat' (first | exact True.intro | refine ⟨_, LeL.refl _, ?_⟩ | refine ⟨_, _, _, LeL.refl _, ?_⟩ | (refine fun (b : Bool) hb => ?_; cases b <;> (first | exact absurd hb (by decide) | exact Bool.noConfusion (show true = false from hb) | exact Bool.noConfusion (show false = true from hb) | skip)) | (refine fun (hl : _ ≤ MAXL) => ?_) | refine And.intro (a := I64 _) ?_ ?_ | refine And.intro (a := _ ≤ 140737488355328) ?_ ?_ | refine ⟨_, ⟨rfl, rfl⟩, ?_⟩ | refine ⟨_, And.intro (a := I64 _) ?_ ⟨rfl, rfl⟩, ?_⟩ | refine ⟨_, _, ⟨rfl, rfl⟩, ?_⟩ | refine ⟨_, (fun _ => ⟨rfl, rfl⟩), ?_⟩ | refine And.intro (a := chkPend _ _ _ _ _ _) ?_ ?_ | refine And.intro (a := chkPast _ _ _ _ _ _ _ _) ?_ ?_ | refine ⟨⟨rfl, rfl⟩, ?_⟩ | refine And.intro (And.intro rfl rfl) ?_ | refine ⟨True.intro, ?_⟩ | refine ⟨_, ⟨_, rfl, ?_, rfl, rfl, rfl⟩, ?_⟩ | refine ⟨_, rfl, ?_, rfl, ?_⟩ | refine ⟨_, (fun _ => rfl), rfl, ?_⟩ | refine ⟨(fun _ => rfl), ?_⟩ | refine ⟨rfl, ?_⟩ | refine Opt.a ?_ | fail)
    refine ⟨c, all, rfl, ?_⟩
    rw [ha, hl2]
    repeat' (first | exact True.intro | refine ⟨_, LeL.refl _, ?_⟩ | refine ⟨_, _, _, LeL.refl _, ?_⟩ | (refine fun (b : Bool) hb => ?_; cases b <;> (first | exact absurd hb (by decide) | exact Bool.noConfusion (show true = false from hb) | exact Bool.noConfusion (show false = true from hb) | skip)) | (refine fun (hl : _ ≤ MAXL) => ?_) | refine And.intro (a := I64 _) ?_ ?_ | refine And.intro (a := _ ≤ 140737488355328) ?_ ?_ | refine ⟨_, ⟨rfl, rfl⟩, ?_⟩ | refine ⟨_, And.intro (a := I64 _) ?_ ⟨rfl, rfl⟩, ?_⟩ | refine ⟨_, _, ⟨rfl, rfl⟩, ?_⟩ | refine ⟨_, (fun _ => ⟨rfl, rfl⟩), ?_⟩ | refine And.intro (a := chkPend _ _ _ _ _ _) ?_ ?_ | refine And.intro (a := chkPast _ _ _ _ _ _ _ _) ?_ ?_ | refine ⟨⟨rfl, rfl⟩, ?_⟩ | refine And.intro (And.intro rfl rfl) ?_ | refine ⟨True.intro, ?_⟩ | refine ⟨_, ⟨_, rfl, ?_, rfl, rfl, rfl⟩, ?_⟩ | refine ⟨_, rfl, ?_, rfl, ?_⟩ | refine ⟨_, (fun _ => rfl), rfl, ?_⟩ | refine ⟨(fun _ => rfl), ?_⟩ | refine ⟨rfl, ?_⟩ | refine Opt.a ?_ | fail)
    refine ⟨put (linesC c (p.map linesOf).flatten), put (linesC c (p.map linesOf).flatten), rfl, ?_⟩
    rw [decide_eq_true (rfl : put (linesC c (p.map linesOf).flatten) = put (linesC c (p.map linesOf).flatten))]
    repeat' (first | exact True.intro | refine ⟨_, LeL.refl _, ?_⟩ | refine ⟨_, _, _, LeL.refl _, ?_⟩ | (refine fun (b : Bool) hb => ?_; cases b <;> (first | exact absurd hb (by decide) | exact Bool.noConfusion (show true = false from hb) | exact Bool.noConfusion (show false = true from hb) | skip)) | (refine fun (hl : _ ≤ MAXL) => ?_) | refine And.intro (a := I64 _) ?_ ?_ | refine And.intro (a := _ ≤ 140737488355328) ?_ ?_ | refine ⟨_, ⟨rfl, rfl⟩, ?_⟩ | refine ⟨_, And.intro (a := I64 _) ?_ ⟨rfl, rfl⟩, ?_⟩ | refine ⟨_, _, ⟨rfl, rfl⟩, ?_⟩ | refine ⟨_, (fun _ => ⟨rfl, rfl⟩), ?_⟩ | refine And.intro (a := chkPend _ _ _ _ _ _) ?_ ?_ | refine And.intro (a := chkPast _ _ _ _ _ _ _ _) ?_ ?_ | refine ⟨⟨rfl, rfl⟩, ?_⟩ | refine And.intro (And.intro rfl rfl) ?_ | refine ⟨True.intro, ?_⟩ | refine ⟨_, ⟨_, rfl, ?_, rfl, rfl, rfl⟩, ?_⟩ | refine ⟨_, rfl, ?_, rfl, ?_⟩ | refine ⟨_, (fun _ => rfl), rfl, ?_⟩ | refine ⟨(fun _ => rfl), ?_⟩ | refine ⟨rfl, ?_⟩ | refine Opt.a ?_ | fail)
    exact hK _ rfl
  · have h := of_decide_eq_true (by assumption : decide ((i : Int) < (p.length : Int)) = true)
    show i < p.length
    omega
  have hlt : i < p.length := by
    have h := of_decide_eq_true (by assumption : decide ((i : Int) < (p.length : Int)) = true)
    omega
  have hbl := hb2 _ (List.getElem_mem hlt)
  refine ⟨c, p[i], rfl, ?_⟩
  rw [doC_at hc (by omega)]
  have hdl : done.length ≤ 5 := by rw [hd, List.length_map, List.length_take]; omega
  have hal : all.length ≤ 2005 := by
    have h1 := whole_flat (p.take i)
    have h2 : (p.take i).flatten.length ≤ p.flatten.length := by
      have h1 := congrArg (fun x => x.flatten.length) (List.take_append_drop i p)
      simp only [List.flatten_append, List.length_append] at h1
      omega
    have h3 : (p.take i).length ≤ 5 := by rw [List.length_take]; omega
    rw [ha]; omega
  have hwl := whole_len p[i]
  repeat' (first | exact True.intro | refine ⟨_, LeL.refl _, ?_⟩ | refine ⟨_, _, _, LeL.refl _, ?_⟩ | (refine fun (b : Bool) hb => ?_; cases b <;> (first | exact absurd hb (by decide) | exact Bool.noConfusion (show true = false from hb) | exact Bool.noConfusion (show false = true from hb) | skip)) | (refine fun (hl : _ ≤ MAXL) => ?_) | refine And.intro (a := I64 _) ?_ ?_ | refine And.intro (a := _ ≤ 140737488355328) ?_ ?_ | refine ⟨_, ⟨rfl, rfl⟩, ?_⟩ | refine ⟨_, And.intro (a := I64 _) ?_ ⟨rfl, rfl⟩, ?_⟩ | refine ⟨_, _, ⟨rfl, rfl⟩, ?_⟩ | refine ⟨_, (fun _ => ⟨rfl, rfl⟩), ?_⟩ | refine And.intro (a := chkPend _ _ _ _ _ _) ?_ ?_ | refine And.intro (a := chkPast _ _ _ _ _ _ _ _) ?_ ?_ | refine ⟨⟨rfl, rfl⟩, ?_⟩ | refine And.intro (And.intro rfl rfl) ?_ | refine ⟨True.intro, ?_⟩ | refine ⟨_, ⟨_, rfl, ?_, rfl, rfl, rfl⟩, ?_⟩ | refine ⟨_, rfl, ?_, rfl, ?_⟩ | refine ⟨_, (fun _ => rfl), rfl, ?_⟩ | refine ⟨(fun _ => rfl), ?_⟩ | refine ⟨rfl, ?_⟩ | refine Opt.a ?_ | fail)
  · show ((done.map blV).length + 1) * 24 ≤ 140737488355328
    rw [List.length_map]
    omega
  refine ⟨p[i], rfl, by omega, ?_⟩
  repeat' (first | exact True.intro | refine ⟨_, LeL.refl _, ?_⟩ | refine ⟨_, _, _, LeL.refl _, ?_⟩ | (refine fun (b : Bool) hb => ?_; cases b <;> (first | exact absurd hb (by decide) | exact Bool.noConfusion (show true = false from hb) | exact Bool.noConfusion (show false = true from hb) | skip)) | (refine fun (hl : _ ≤ MAXL) => ?_) | refine And.intro (a := I64 _) ?_ ?_ | refine And.intro (a := _ ≤ 140737488355328) ?_ ?_ | refine ⟨_, ⟨rfl, rfl⟩, ?_⟩ | refine ⟨_, And.intro (a := I64 _) ?_ ⟨rfl, rfl⟩, ?_⟩ | refine ⟨_, _, ⟨rfl, rfl⟩, ?_⟩ | refine ⟨_, (fun _ => ⟨rfl, rfl⟩), ?_⟩ | refine And.intro (a := chkPend _ _ _ _ _ _) ?_ ?_ | refine And.intro (a := chkPast _ _ _ _ _ _ _ _) ?_ ?_ | refine ⟨⟨rfl, rfl⟩, ?_⟩ | refine And.intro (And.intro rfl rfl) ?_ | refine ⟨True.intro, ?_⟩ | refine ⟨_, ⟨_, rfl, ?_, rfl, rfl, rfl⟩, ?_⟩ | refine ⟨_, rfl, ?_, rfl, ?_⟩ | refine ⟨_, (fun _ => rfl), rfl, ?_⟩ | refine ⟨(fun _ => rfl), ?_⟩ | refine ⟨rfl, ?_⟩ | refine Opt.a ?_ | fail)
  · show ((all.map byteV).length + ((whole p[i]).map byteV).length) * 1 ≤ 140737488355328
    rw [List.length_map, List.length_map]
    omega
  · unfold I64
    dsimp only
    omega
  refine ⟨(i + 1, done ++ [put (linesC c (linesOf p[i]))], all ++ whole p[i]), ?_, ⟨hlt, ?_, ?_⟩, by show p.length - (i + 1) < p.length - i; omega⟩
  rotate_left
  · show done ++ [put (linesC c (linesOf p[i]))] = _
    rw [List.take_succ_eq_append_getElem hlt, List.map_append, hd]
    rfl
  · show all ++ whole p[i] = _
    rw [List.take_succ_eq_append_getElem hlt, List.map_append, List.flatten_append, ha]
    simp
  (refine wk_auto ?_; refine Sel4.mk rfl rfl ?_ ?_ <;> (repeat' (first | exact True.intro | exact rfl | exact Or.inl rfl | exact Or.inr rfl | refine And.intro ?_ ?_ | fail)))
  · show Row.row 1 _ = Row.row 1 _
    rw [List.map_append]
    rfl
  · show Row.row 1 _ = Row.row 1 _
    rw [List.map_append]
end Gv
namespace Gv
variable [Glob] [Laid]
theorem opn_cmd : Opn Tryz.prog 48 cmdV (fun _ => True) := ⟨fun en w fuel cs d p h hw => by
  have hl : cs.length = 3 := (opn_width Tryz.underlying48 h).trans (by kernel_rfl)
  obtain ⟨k, _, f1⟩ := opn_field 0 0 1 (T := 3) Tryz.underlying48 rfl rfl rfl (by kernel_rfl) (opn_int Tryz.underlying3) h hw
  obtain ⟨s, _, f2⟩ := opn_field 1 1 1 (T := 9) Tryz.underlying48 rfl rfl rfl (by kernel_rfl) (opn_str Tryz.underlying9) h hw
  obtain ⟨n, _, f3⟩ := opn_field 2 2 1 (T := 3) Tryz.underlying48 rfl rfl rfl (by kernel_rfl) (opn_int Tryz.underlying3) h hw
  have := Fit.cons 0 1 f1 rfl (Fit.cons 1 2 f2 rfl (Fit.cons 2 3 f3 rfl (Fit.last 3 hl)))
  rw [List.drop_zero] at this
  exact ⟨⟨k, s, n⟩, trivial, this⟩⟩
end Gv
namespace Gv
variable [Glob] [Laid] [Errs] [Nums]
def jWholeT_S : Spec := fun args K => ∃ (c : Cmd) (p : List Bs), args = [.agg [.int .i64 c.kind, .str c.word, .int .i64 c.n], .sl blV p] ∧ (∀ b ∈ p, b.length ≤ 140737488355328) ∧ K (.bool true)
theorem jWholeT_ok : Pure Tryz.prog 9 jWholeT_S := by
  intro w m args us k a1 a2 a3 a4
  obtain ⟨c, p, rfl, a5, a6⟩ := a4
  exact jWhole_ok w m _ us k a1 a2 a3 ⟨c, p, rfl, a5, a6⟩
theorem opn_cmdD : Opn Tryz.prog 48 (fun c : Cmd => .agg [.int .i64 c.kind, .str c.word, .int .i64 c.n]) (fun _ => True) := opn_cmd
end Gv
