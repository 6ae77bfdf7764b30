/- What functions of the program come to, part 1: in every world; the conditions stand in each theorem. -/
import Derived.Test.YtffljdmmambdjabDoorVd
import Derived.Test.YtffljdmmambdjabDoorProg
import Derived.Test.YtffljdmmambdjabDoorSh
set_option linter.unusedVariables false
set_option linter.unusedSectionVars false
set_option linter.unusedSimpArgs false
open Go Go.Proofs Gw Gp
namespace Gv
variable [Glob]
noncomputable def tys : List (Nat × TI) := [(3, ⟨(.int .i64 0), 1, 8, false, (.int .i64)⟩),
    (5, ⟨(.int .u8 0), 1, 1, false, (.int .u8)⟩),
    (9, ⟨(.string ⟨#[]⟩), 1, 16, false, .str⟩),
    (23, ⟨(.agg #[(.int .i64 0), (.string ⟨#[]⟩), (.int .i64 0)]), 3, 32, true, (.struct [(3, 0), (9, 1), (3, 2)])⟩),
    (24, ⟨(.slice none 0 0), 1, 24, false, (.slice 5)⟩),
    (26, ⟨(.int .i64 0), 1, 8, false, (.int .i64)⟩),
    (34, ⟨(.slice none 0 0), 1, 24, false, (.slice 9)⟩),
    (43, ⟨(.slice none 0 0), 1, 24, false, (.slice 24)⟩),
    (48, ⟨(.slice none 0 0), 1, 24, false, (.slice 34)⟩),
    (51, ⟨.nilFunc, 1, 8, false, .other⟩),
    (64, ⟨(.int .u64 0), 1, 8, false, (.int .u64)⟩),
    (80, ⟨(.int .i64 0), 1, 8, false, (.int .i64)⟩),
    (97, ⟨(.int .u64 0), 1, 8, false, (.int .u64)⟩),
    (101, ⟨(.pointer none), 1, 8, false, .other⟩)]
theorem mixed0 : (Tryd.prog).follows .mixedOrders = true := by kernel_rfl
theorem tys0 : TysOK Tryd.prog tys := tys_ok (by kernel_rfl)
theorem E0ok : EnvOK ⟨Tryd.prog, tys, [], [], [], []⟩ := env_ok mixed0 tys0 .nil .nil .nil rfl
/-- What the library's variables hold. -/
class Laid : Prop where
  maxlen : ∀ w, Sub Glob.mem w → ∃ n, w.cell? ⟨0, 0, none⟩ = some (.int .i64 n)
/-- What the tables of numbers hold. -/
class Nums : Prop where
  pow10 : ∀ w, Sub Glob.mem w → Lib.TabIs Tryd.prog w "internal/strconv.uint64pow10" .u64 Lib.pow10Tab
end Gv
namespace Gv
variable [Glob] [Laid]
theorem word1_ca : callable Tryd.prog 25 = true := by kernel_rfl
def word1_S : Spec := fun args K => ∃ (c : UInt8), args = [byteV c] ∧ K (.bool (!wordByte c))
noncomputable def word1_lib : List (Nat × Spec) := []
noncomputable def word1_fns : List (Nat × FnI) := []
noncomputable def word1_prims : List (Nat × PSpec) := []
theorem word1_E : EnvOK ⟨Tryd.prog, tys, word1_lib, word1_fns, word1_prims, []⟩ := env_ok mixed0 tys0 .nil .nil .nil rfl
set_option maxHeartbeats 4000000 in
theorem word1_ok : Pure Tryd.prog 25 word1_S := by
  refine pure_by word1_E 6 (fi := {fn := Tryd.f25, hooks := [], draws := []}) ⟨Tryd.func25, by kernel_rfl, by kernel_rfl⟩ ?_
  rintro _ K ⟨c, rfl, hK⟩
  replace hK : ∀ r, r = .bool (!wordByte c) → K r := fun r h => h ▸ hK
  repeat' (first | exact True.intro | refine ⟨_, LeL.refl _, ?_⟩ | refine ⟨_, _, _, LeL.refl _, ?_⟩ | (refine fun (b : Bool) hb => ?_; cases b <;> (first | exact absurd hb (by decide) | exact Bool.noConfusion (show true = false from hb) | exact Bool.noConfusion (show false = true from hb) | skip)) | (refine fun (hl : _ ≤ MAXL) => ?_) | refine And.intro (a := I64 _) ?_ ?_ | refine And.intro (a := _ ≤ 140737488355328) ?_ ?_ | refine ⟨_, ⟨rfl, rfl⟩, ?_⟩ | refine ⟨_, And.intro (a := I64 _) ?_ ⟨rfl, rfl⟩, ?_⟩ | refine ⟨_, _, ⟨rfl, rfl⟩, ?_⟩ | refine ⟨_, (fun _ => ⟨rfl, rfl⟩), ?_⟩ | refine And.intro (a := chkPend _ _ _ _ _ _) ?_ ?_ | refine And.intro (a := chkPast _ _ _ _ _ _ _ _) ?_ ?_ | refine ⟨⟨rfl, rfl⟩, ?_⟩ | refine And.intro (And.intro rfl rfl) ?_ | refine ⟨True.intro, ?_⟩ | refine ⟨_, ⟨_, rfl, ?_, rfl, rfl, rfl⟩, ?_⟩ | refine ⟨_, rfl, ?_, rfl, ?_⟩ | refine ⟨_, (fun _ => rfl), rfl, ?_⟩ | refine ⟨(fun _ => rfl), ?_⟩ | refine ⟨rfl, ?_⟩ | refine Opt.a ?_ | fail)
  all_goals (refine hK _ ?_; unfold wordByte; congr 1; grind)
end Gv
namespace Gv
variable [Glob] [Laid]
theorem word_ca : callable Tryd.prog 16 = true := by kernel_rfl
def word_S : Spec := fun args K => ∃ (s : Bs), args = [.str s] ∧ K (.bool (isWord s))
noncomputable def word_lib : List (Nat × Spec) := [(25, word1_S)]
noncomputable def word_fns : List (Nat × FnI) := [(24, {fn := Tryd.f24, hooks := [], draws := []}), (34, {fn := Tryd.f34, hooks := [], draws := []})]
noncomputable def word_prims : List (Nat × PSpec) := []
theorem word_E : EnvOK ⟨Tryd.prog, tys, word_lib, word_fns, word_prims, []⟩ := env_ok mixed0 tys0 (.cons word1_ca word1_ok .nil) (.cons (by kernel_rfl) ⟨Tryd.func24, by kernel_rfl, by kernel_rfl⟩ (.cons (by kernel_rfl) ⟨Tryd.func34, by kernel_rfl, by kernel_rfl⟩ .nil)) .nil rfl
set_option maxHeartbeats 4000000 in
theorem word_ok : Pure Tryd.prog 16 word_S := by
  refine pure_by word_E 6 (fi := {fn := Tryd.f16, hooks := [], draws := []}) ⟨Tryd.func16, by kernel_rfl, by kernel_rfl⟩ ?_
  rintro _ K ⟨s, rfl, hK⟩
  replace hK : ∀ r, r = .bool (isWord s) → K r := fun r h => h ▸ hK
  repeat' (first | exact True.intro | refine ⟨_, LeL.refl _, ?_⟩ | refine ⟨_, _, _, LeL.refl _, ?_⟩ | (refine fun (b : Bool) hb => ?_; cases b <;> (first | exact absurd hb (by decide) | exact Bool.noConfusion (show true = false from hb) | exact Bool.noConfusion (show false = true from hb) | skip)) | (refine fun (hl : _ ≤ MAXL) => ?_) | refine And.intro (a := I64 _) ?_ ?_ | refine And.intro (a := _ ≤ 140737488355328) ?_ ?_ | refine ⟨_, ⟨rfl, rfl⟩, ?_⟩ | refine ⟨_, And.intro (a := I64 _) ?_ ⟨rfl, rfl⟩, ?_⟩ | refine ⟨_, _, ⟨rfl, rfl⟩, ?_⟩ | refine ⟨_, (fun _ => ⟨rfl, rfl⟩), ?_⟩ | refine And.intro (a := chkPend _ _ _ _ _ _) ?_ ?_ | refine And.intro (a := chkPast _ _ _ _ _ _ _ _) ?_ ?_ | refine ⟨⟨rfl, rfl⟩, ?_⟩ | refine And.intro (And.intro rfl rfl) ?_ | refine ⟨True.intro, ?_⟩ | refine ⟨_, ⟨_, rfl, ?_, rfl, rfl, rfl⟩, ?_⟩ | refine ⟨_, rfl, ?_, rfl, ?_⟩ | refine ⟨_, (fun _ => rfl), rfl, ?_⟩ | refine ⟨(fun _ => rfl), ?_⟩ | refine ⟨rfl, ?_⟩ | refine Opt.a ?_ | fail)
  · refine hK _ ?_
    have h : (!decide (s = [])) = false := by assumption
    have : s = [] := by simpa using h
    subst this; rfl
  · refine hK _ ?_
    have h : decide ((s.length : Int) ≤ 12) = false := by assumption
    have h2 : ¬ s.length ≤ 12 := by
      intro h3
      have : ((s.length : Int) ≤ 12) := by omega
      simp [this] at h
    simp [isWord, h2]
  · have h : decide ((s.length : Int) ≤ 12) = true := by assumption
    have h2 : (s.length : Int) ≤ 12 := by simpa using h
    omega
  have hw : ∃ t : Bool, isWord s = t ∧ t = s.all wordByte := by
    have h : (!decide (s = [])) = true := by assumption
    have h1 : s ≠ [] := by simpa using h
    have h : decide ((s.length : Int) ≤ 12) = true := by assumption
    have h2 : (s.length : Int) ≤ 12 := by simpa using h
    have h3 : s.length ≤ 12 := by omega
    exact ⟨s.all wordByte, by simp [isWord, h1, h3], rfl⟩
  obtain ⟨t, ht, hta⟩ := hw
  rw [ht] at hK
  conv => whnf
  refine loop_live [0, 1, 7] (σ := Nat) (fun i => [(8, .int .i64 i)]) (fun _ => []) (fun i => i ≤ s.length ∧ (s.take i).all wordByte = true) (fun i => s.length - i) 0 ?_
  conv => whnf
  refine ⟨(by (refine wk_sel [] rfl rfl ?_ ?_ <;> (repeat' (first | exact True.intro | exact rfl | exact Or.inl rfl | exact Or.inr rfl | refine And.intro ?_ ?_ | fail)))), ⟨Nat.zero_le _, rfl⟩, fun i hi => ?_⟩
  obtain ⟨hi, hI⟩ := hi
  repeat' (first | exact True.intro | refine ⟨_, LeL.refl _, ?_⟩ | refine ⟨_, _, _, LeL.refl _, ?_⟩ | (refine fun (b : Bool) hb => ?_; cases b <;> (first | exact absurd hb (by decide) | exact Bool.noConfusion (show true = false from hb) | exact Bool.noConfusion (show false = true from hb) | skip)) | (refine fun (hl : _ ≤ MAXL) => ?_) | refine And.intro (a := I64 _) ?_ ?_ | refine And.intro (a := _ ≤ 140737488355328) ?_ ?_ | refine ⟨_, ⟨rfl, rfl⟩, ?_⟩ | refine ⟨_, And.intro (a := I64 _) ?_ ⟨rfl, rfl⟩, ?_⟩ | refine ⟨_, _, ⟨rfl, rfl⟩, ?_⟩ | refine ⟨_, (fun _ => ⟨rfl, rfl⟩), ?_⟩ | refine And.intro (a := chkPend _ _ _ _ _ _) ?_ ?_ | refine And.intro (a := chkPast _ _ _ _ _ _ _ _) ?_ ?_ | refine ⟨⟨rfl, rfl⟩, ?_⟩ | refine And.intro (And.intro rfl rfl) ?_ | refine ⟨True.intro, ?_⟩ | refine ⟨_, ⟨_, rfl, ?_, rfl, rfl, rfl⟩, ?_⟩ | refine ⟨_, rfl, ?_, rfl, ?_⟩ | refine ⟨_, (fun _ => rfl), rfl, ?_⟩ | refine ⟨(fun _ => rfl), ?_⟩ | refine ⟨rfl, ?_⟩ | refine Opt.a ?_ | fail)
  · have e : s.take i = s := List.take_of_length_le (by grind)
    rw [e] at hI
    refine hK _ ?_
    rw [hta, hI]
    rfl
  · grind
  have hi2 : i < s.length := by grind
  refine ⟨s[i], rfl, ?_⟩
  have hts : s.take (i + 1) = s.take i ++ [s[i]] := List.take_succ_eq_append_getElem hi2
  repeat' (first | exact True.intro | refine ⟨_, LeL.refl _, ?_⟩ | refine ⟨_, _, _, LeL.refl _, ?_⟩ | (refine fun (b : Bool) hb => ?_; cases b <;> (first | exact absurd hb (by decide) | exact Bool.noConfusion (show true = false from hb) | exact Bool.noConfusion (show false = true from hb) | skip)) | (refine fun (hl : _ ≤ MAXL) => ?_) | refine And.intro (a := I64 _) ?_ ?_ | refine And.intro (a := _ ≤ 140737488355328) ?_ ?_ | refine ⟨_, ⟨rfl, rfl⟩, ?_⟩ | refine ⟨_, And.intro (a := I64 _) ?_ ⟨rfl, rfl⟩, ?_⟩ | refine ⟨_, _, ⟨rfl, rfl⟩, ?_⟩ | refine ⟨_, (fun _ => ⟨rfl, rfl⟩), ?_⟩ | refine And.intro (a := chkPend _ _ _ _ _ _) ?_ ?_ | refine And.intro (a := chkPast _ _ _ _ _ _ _ _) ?_ ?_ | refine ⟨⟨rfl, rfl⟩, ?_⟩ | refine And.intro (And.intro rfl rfl) ?_ | refine ⟨True.intro, ?_⟩ | refine ⟨_, ⟨_, rfl, ?_, rfl, rfl, rfl⟩, ?_⟩ | refine ⟨_, rfl, ?_, rfl, ?_⟩ | refine ⟨_, (fun _ => rfl), rfl, ?_⟩ | refine ⟨(fun _ => rfl), ?_⟩ | refine ⟨rfl, ?_⟩ | refine Opt.a ?_ | fail)
  · (first | omega | (unfold I64; omega) | (simp only [List.length_append, List.length_map, List.length_cons, List.length_nil, Nat.mul_one, Int.ofNat_eq_natCast] at *; omega) | (dsimp only at *; omega) | (unfold I64; dsimp only at *; omega) | (unfold I64; grind) | grind)
  · refine ⟨i + 1, (by (refine wk_sel [] rfl rfl ?_ ?_ <;> (repeat' (first | exact True.intro | exact rfl | exact Or.inl rfl | exact Or.inr rfl | refine And.intro ?_ ?_ | fail)))), ⟨by omega, ?_⟩, by omega⟩
    rw [hts, List.all_append, hI]
    grind
  · refine hK _ ?_
    have h1 : wordByte s[i] = false := by grind
    have h2 : s.all wordByte = false := by
      rw [List.all_eq_false]
      exact ⟨s[i], List.getElem_mem hi2, by simp [h1]⟩
    rw [hta, h2]
    simp
end Gv
namespace Gv
variable [Glob] [Laid]
theorem ccheck_ca : callable Tryd.prog 5 = true := by kernel_rfl
def ccheck_S : Spec := fun args K => ∃ (k : Int) (s : Bs) (n : Int), args = [.agg [.int .i64 k, .str s, .int .i64 n]] ∧ K (.int .i64 (checkCmd ⟨k, s, n⟩))
noncomputable def ccheck_lib : List (Nat × Spec) := [(16, word_S)]
noncomputable def ccheck_fns : List (Nat × FnI) := []
noncomputable def ccheck_prims : List (Nat × PSpec) := []
theorem ccheck_E : EnvOK ⟨Tryd.prog, tys, ccheck_lib, ccheck_fns, ccheck_prims, []⟩ := env_ok mixed0 tys0 (.cons word_ca word_ok .nil) .nil .nil rfl
set_option maxHeartbeats 4000000 in
theorem ccheck_ok : Pure Tryd.prog 5 ccheck_S := by
  refine pure_by ccheck_E 6 (fi := {fn := Tryd.f5, hooks := [4, 5, 7, 9], draws := []}) ⟨Tryd.func5, by kernel_rfl, by kernel_rfl⟩ ?_
  rintro _ K ⟨k, s, n, rfl, hK⟩
  replace hK : ∀ r, r = .int .i64 (checkCmd ⟨k, s, n⟩) → K r := fun r h => h ▸ hK
  obtain ⟨uw, huw⟩ : ∃ b, useWord ⟨k, s, n⟩ = b := ⟨_, rfl⟩
  obtain ⟨un, hun⟩ : ∃ b, useN ⟨k, s, n⟩ = b := ⟨_, rfl⟩
  have hc : checkCmd ⟨k, s, n⟩ = if k < 1 ∨ 10 < k then 4 else if (uw = false ∧ s ≠ []) ∨ (un = false ∧ n ≠ 0) then 4 else if un = true ∧ (n < 1 ∨ 1000 < n) then 3 else if (uw = true ∧ isWord s = false) ∨ (k = 3 ∧ s.length ≠ 2) then 1 else 0 := by
    unfold checkCmd
    rw [huw, hun]
  rw [hc] at hK
  clear hc
  simp only [useWord] at huw
  simp only [useN] at hun
  repeat' (first | exact True.intro | refine ⟨_, LeL.refl _, ?_⟩ | refine ⟨_, _, _, LeL.refl _, ?_⟩ | (refine fun (b : Bool) hb => ?_; cases b <;> (first | exact absurd hb (by decide) | exact Bool.noConfusion (show true = false from hb) | exact Bool.noConfusion (show false = true from hb) | skip)) | (refine fun (hl : _ ≤ MAXL) => ?_) | refine And.intro (a := I64 _) ?_ ?_ | refine And.intro (a := _ ≤ 140737488355328) ?_ ?_ | refine ⟨_, ⟨rfl, rfl⟩, ?_⟩ | refine ⟨_, And.intro (a := I64 _) ?_ ⟨rfl, rfl⟩, ?_⟩ | refine ⟨_, _, ⟨rfl, rfl⟩, ?_⟩ | refine ⟨_, (fun _ => ⟨rfl, rfl⟩), ?_⟩ | refine And.intro (a := chkPend _ _ _ _ _ _) ?_ ?_ | refine And.intro (a := chkPast _ _ _ _ _ _ _ _) ?_ ?_ | refine ⟨⟨rfl, rfl⟩, ?_⟩ | refine And.intro (And.intro rfl rfl) ?_ | refine ⟨True.intro, ?_⟩ | refine ⟨_, ⟨_, rfl, ?_, rfl, rfl, rfl⟩, ?_⟩ | refine ⟨_, rfl, ?_, rfl, ?_⟩ | refine ⟨_, (fun _ => rfl), rfl, ?_⟩ | refine ⟨(fun _ => rfl), ?_⟩ | refine ⟨rfl, ?_⟩ | refine Opt.a ?_ | fail)
  rotate_left
  · exact hK _ (by rw [if_pos (by grind)])
  · exact hK _ (by rw [if_pos (by grind)])
  have h1 : ¬ (k < 1 ∨ 10 < k) := by grind
  simp only [h1, if_false] at hK
  conv => whnf
  refine join_live [1] (σ := Bool) (fun b => [(3, .bool b)]) (fun _ => [.box [.int .i64 k, .str s, .int .i64 n]]) (fun b => b = uw) ?_
  conv => whnf
  refine ⟨?_, fun b hbu => ?_⟩
  · repeat' (first | exact True.intro | refine ⟨_, LeL.refl _, ?_⟩ | refine ⟨_, _, _, LeL.refl _, ?_⟩ | (refine fun (b : Bool) hb => ?_; cases b <;> (first | exact absurd hb (by decide) | exact Bool.noConfusion (show true = false from hb) | exact Bool.noConfusion (show false = true from hb) | skip)) | (refine fun (hl : _ ≤ MAXL) => ?_) | refine And.intro (a := I64 _) ?_ ?_ | refine And.intro (a := _ ≤ 140737488355328) ?_ ?_ | refine ⟨_, ⟨rfl, rfl⟩, ?_⟩ | refine ⟨_, And.intro (a := I64 _) ?_ ⟨rfl, rfl⟩, ?_⟩ | refine ⟨_, _, ⟨rfl, rfl⟩, ?_⟩ | refine ⟨_, (fun _ => ⟨rfl, rfl⟩), ?_⟩ | refine And.intro (a := chkPend _ _ _ _ _ _) ?_ ?_ | refine And.intro (a := chkPast _ _ _ _ _ _ _ _) ?_ ?_ | refine ⟨⟨rfl, rfl⟩, ?_⟩ | refine And.intro (And.intro rfl rfl) ?_ | refine ⟨True.intro, ?_⟩ | refine ⟨_, ⟨_, rfl, ?_, rfl, rfl, rfl⟩, ?_⟩ | refine ⟨_, rfl, ?_, rfl, ?_⟩ | refine ⟨_, (fun _ => rfl), rfl, ?_⟩ | refine ⟨(fun _ => rfl), ?_⟩ | refine ⟨rfl, ?_⟩ | refine Opt.a ?_ | fail)
    all_goals (refine ⟨_, by refine wk_sel [some 0] rfl rfl ?_ ?_ <;> (repeat' (first | exact True.intro | exact rfl | exact Or.inl rfl | exact Or.inr rfl | refine And.intro ?_ ?_ | fail)), ?_⟩; rw [← huw]; simp_all)
  obtain rfl : uw = b := hbu.symm
  clear huw
  conv => whnf
  refine join_live [1, 3] (σ := Bool) (fun b => [(4, .bool b)]) (fun _ => [.box [.int .i64 k, .str s, .int .i64 n]]) (fun b => b = un) ?_
  conv => whnf
  refine ⟨?_, fun b hbu => ?_⟩
  · repeat' (first | exact True.intro | refine ⟨_, LeL.refl _, ?_⟩ | refine ⟨_, _, _, LeL.refl _, ?_⟩ | (refine fun (b : Bool) hb => ?_; cases b <;> (first | exact absurd hb (by decide) | exact Bool.noConfusion (show true = false from hb) | exact Bool.noConfusion (show false = true from hb) | skip)) | (refine fun (hl : _ ≤ MAXL) => ?_) | refine And.intro (a := I64 _) ?_ ?_ | refine And.intro (a := _ ≤ 140737488355328) ?_ ?_ | refine ⟨_, ⟨rfl, rfl⟩, ?_⟩ | refine ⟨_, And.intro (a := I64 _) ?_ ⟨rfl, rfl⟩, ?_⟩ | refine ⟨_, _, ⟨rfl, rfl⟩, ?_⟩ | refine ⟨_, (fun _ => ⟨rfl, rfl⟩), ?_⟩ | refine And.intro (a := chkPend _ _ _ _ _ _) ?_ ?_ | refine And.intro (a := chkPast _ _ _ _ _ _ _ _) ?_ ?_ | refine ⟨⟨rfl, rfl⟩, ?_⟩ | refine And.intro (And.intro rfl rfl) ?_ | refine ⟨True.intro, ?_⟩ | refine ⟨_, ⟨_, rfl, ?_, rfl, rfl, rfl⟩, ?_⟩ | refine ⟨_, rfl, ?_, rfl, ?_⟩ | refine ⟨_, (fun _ => rfl), rfl, ?_⟩ | refine ⟨(fun _ => rfl), ?_⟩ | refine ⟨rfl, ?_⟩ | refine Opt.a ?_ | fail)
    all_goals (refine ⟨_, by refine wk_sel [some 0] rfl rfl ?_ ?_ <;> (repeat' (first | exact True.intro | exact rfl | exact Or.inl rfl | exact Or.inr rfl | refine And.intro ?_ ?_ | fail)), ?_⟩; rw [← hun]; simp_all)
  obtain rfl : un = b := hbu.symm
  clear hun
  conv => whnf
  refine join_live [1, 3, 4] (σ := Unit) (fun b => []) (fun _ => [.box [.int .i64 k, .str s, .int .i64 n]]) (fun b => ¬ ((uw = false ∧ s ≠ []) ∨ (un = false ∧ n ≠ 0))) ?_
  conv => whnf
  refine ⟨?_, fun _ h2 => ?_⟩
  · repeat' (first | exact True.intro | refine ⟨_, LeL.refl _, ?_⟩ | refine ⟨_, _, _, LeL.refl _, ?_⟩ | (refine fun (b : Bool) hb => ?_; cases b <;> (first | exact absurd hb (by decide) | exact Bool.noConfusion (show true = false from hb) | exact Bool.noConfusion (show false = true from hb) | skip)) | (refine fun (hl : _ ≤ MAXL) => ?_) | refine And.intro (a := I64 _) ?_ ?_ | refine And.intro (a := _ ≤ 140737488355328) ?_ ?_ | refine ⟨_, ⟨rfl, rfl⟩, ?_⟩ | refine ⟨_, And.intro (a := I64 _) ?_ ⟨rfl, rfl⟩, ?_⟩ | refine ⟨_, _, ⟨rfl, rfl⟩, ?_⟩ | refine ⟨_, (fun _ => ⟨rfl, rfl⟩), ?_⟩ | refine And.intro (a := chkPend _ _ _ _ _ _) ?_ ?_ | refine And.intro (a := chkPast _ _ _ _ _ _ _ _) ?_ ?_ | refine ⟨⟨rfl, rfl⟩, ?_⟩ | refine And.intro (And.intro rfl rfl) ?_ | refine ⟨True.intro, ?_⟩ | refine ⟨_, ⟨_, rfl, ?_, rfl, rfl, rfl⟩, ?_⟩ | refine ⟨_, rfl, ?_, rfl, ?_⟩ | refine ⟨_, (fun _ => rfl), rfl, ?_⟩ | refine ⟨(fun _ => rfl), ?_⟩ | refine ⟨rfl, ?_⟩ | refine Opt.a ?_ | fail)
    all_goals (conv => whnf)
    all_goals first
      | (refine ⟨(), (by (refine wk_sel [some 0] rfl rfl ?_ ?_ <;> (repeat' (first | exact True.intro | exact rfl | exact Or.inl rfl | exact Or.inr rfl | refine And.intro ?_ ?_ | fail)))), ?_⟩; simp_all; done)
      | (refine hK _ ?_; rw [if_pos]; simp_all; done)
  simp only [h2, if_false] at hK
  conv => whnf
  refine join_live [1, 3] (σ := Unit) (fun b => []) (fun _ => [.box [.int .i64 k, .str s, .int .i64 n]]) (fun b => ¬ (un = true ∧ (n < 1 ∨ 1000 < n))) ?_
  conv => whnf
  refine ⟨?_, fun _ h3 => ?_⟩
  · repeat' (first | exact True.intro | refine ⟨_, LeL.refl _, ?_⟩ | refine ⟨_, _, _, LeL.refl _, ?_⟩ | (refine fun (b : Bool) hb => ?_; cases b <;> (first | exact absurd hb (by decide) | exact Bool.noConfusion (show true = false from hb) | exact Bool.noConfusion (show false = true from hb) | skip)) | (refine fun (hl : _ ≤ MAXL) => ?_) | refine And.intro (a := I64 _) ?_ ?_ | refine And.intro (a := _ ≤ 140737488355328) ?_ ?_ | refine ⟨_, ⟨rfl, rfl⟩, ?_⟩ | refine ⟨_, And.intro (a := I64 _) ?_ ⟨rfl, rfl⟩, ?_⟩ | refine ⟨_, _, ⟨rfl, rfl⟩, ?_⟩ | refine ⟨_, (fun _ => ⟨rfl, rfl⟩), ?_⟩ | refine And.intro (a := chkPend _ _ _ _ _ _) ?_ ?_ | refine And.intro (a := chkPast _ _ _ _ _ _ _ _) ?_ ?_ | refine ⟨⟨rfl, rfl⟩, ?_⟩ | refine And.intro (And.intro rfl rfl) ?_ | refine ⟨True.intro, ?_⟩ | refine ⟨_, ⟨_, rfl, ?_, rfl, rfl, rfl⟩, ?_⟩ | refine ⟨_, rfl, ?_, rfl, ?_⟩ | refine ⟨_, (fun _ => rfl), rfl, ?_⟩ | refine ⟨(fun _ => rfl), ?_⟩ | refine ⟨rfl, ?_⟩ | refine Opt.a ?_ | fail)
    all_goals (conv => whnf)
    all_goals first
      | (refine ⟨(), (by (refine wk_sel [some 0] rfl rfl ?_ ?_ <;> (repeat' (first | exact True.intro | exact rfl | exact Or.inl rfl | exact Or.inr rfl | refine And.intro ?_ ?_ | fail)))), ?_⟩; simp_all; done)
      | (refine hK _ ?_; rw [if_pos]; simp_all; done)
  simp only [h3, if_false] at hK
  repeat' (first | exact True.intro | refine ⟨_, LeL.refl _, ?_⟩ | refine ⟨_, _, _, LeL.refl _, ?_⟩ | (refine fun (b : Bool) hb => ?_; cases b <;> (first | exact absurd hb (by decide) | exact Bool.noConfusion (show true = false from hb) | exact Bool.noConfusion (show false = true from hb) | skip)) | (refine fun (hl : _ ≤ MAXL) => ?_) | refine And.intro (a := I64 _) ?_ ?_ | refine And.intro (a := _ ≤ 140737488355328) ?_ ?_ | refine ⟨_, ⟨rfl, rfl⟩, ?_⟩ | refine ⟨_, And.intro (a := I64 _) ?_ ⟨rfl, rfl⟩, ?_⟩ | refine ⟨_, _, ⟨rfl, rfl⟩, ?_⟩ | refine ⟨_, (fun _ => ⟨rfl, rfl⟩), ?_⟩ | refine And.intro (a := chkPend _ _ _ _ _ _) ?_ ?_ | refine And.intro (a := chkPast _ _ _ _ _ _ _ _) ?_ ?_ | refine ⟨⟨rfl, rfl⟩, ?_⟩ | refine And.intro (And.intro rfl rfl) ?_ | refine ⟨True.intro, ?_⟩ | refine ⟨_, ⟨_, rfl, ?_, rfl, rfl, rfl⟩, ?_⟩ | refine ⟨_, rfl, ?_, rfl, ?_⟩ | refine ⟨_, (fun _ => rfl), rfl, ?_⟩ | refine ⟨(fun _ => rfl), ?_⟩ | refine ⟨rfl, ?_⟩ | refine Opt.a ?_ | fail)
  all_goals (conv => whnf)
  any_goals first
      | (refine hK _ ?_; rw [if_pos]; simp_all; done)
      | (refine hK _ ?_; rw [if_neg]; simp_all; done)
  refine ⟨s, rfl, ?_⟩
  repeat' (first | exact True.intro | refine ⟨_, LeL.refl _, ?_⟩ | refine ⟨_, _, _, LeL.refl _, ?_⟩ | (refine fun (b : Bool) hb => ?_; cases b <;> (first | exact absurd hb (by decide) | exact Bool.noConfusion (show true = false from hb) | exact Bool.noConfusion (show false = true from hb) | skip)) | (refine fun (hl : _ ≤ MAXL) => ?_) | refine And.intro (a := I64 _) ?_ ?_ | refine And.intro (a := _ ≤ 140737488355328) ?_ ?_ | refine ⟨_, ⟨rfl, rfl⟩, ?_⟩ | refine ⟨_, And.intro (a := I64 _) ?_ ⟨rfl, rfl⟩, ?_⟩ | refine ⟨_, _, ⟨rfl, rfl⟩, ?_⟩ | refine ⟨_, (fun _ => ⟨rfl, rfl⟩), ?_⟩ | refine And.intro (a := chkPend _ _ _ _ _ _) ?_ ?_ | refine And.intro (a := chkPast _ _ _ _ _ _ _ _) ?_ ?_ | refine ⟨⟨rfl, rfl⟩, ?_⟩ | refine And.intro (And.intro rfl rfl) ?_ | refine ⟨True.intro, ?_⟩ | refine ⟨_, ⟨_, rfl, ?_, rfl, rfl, rfl⟩, ?_⟩ | refine ⟨_, rfl, ?_, rfl, ?_⟩ | refine ⟨_, (fun _ => rfl), rfl, ?_⟩ | refine ⟨(fun _ => rfl), ?_⟩ | refine ⟨rfl, ?_⟩ | refine Opt.a ?_ | fail)
  all_goals (conv => whnf)
  any_goals first
      | (refine hK _ ?_; rw [if_pos]; simp_all; done)
      | (refine hK _ ?_; rw [if_neg]; simp_all; done)
  · refine hK _ ?_
    rw [if_neg]
    grind
  · refine hK _ ?_
    rw [if_pos]
    grind
end Gv
namespace Gv
variable [Glob] [Laid]
theorem containsB_ca : callable Tryd.prog 10 = true := by kernel_rfl
def containsB_S : Spec := fun args K => ∃ (l : List UInt8) (c : UInt8), args = [.sl byteV l, byteV c] ∧ K (.bool (l.contains c))
noncomputable def containsB_lib : List (Nat × Spec) := []
noncomputable def containsB_fns : List (Nat × FnI) := [(21, {fn := Tryd.f21, hooks := [], draws := []})]
noncomputable def containsB_prims : List (Nat × PSpec) := []
theorem containsB_E : EnvOK ⟨Tryd.prog, tys, containsB_lib, containsB_fns, containsB_prims, []⟩ := env_ok mixed0 tys0 .nil (.cons (by kernel_rfl) ⟨Tryd.func21, by kernel_rfl, by kernel_rfl⟩ .nil) .nil rfl
set_option maxHeartbeats 4000000 in
theorem containsB_ok : Pure Tryd.prog 10 containsB_S := by
  refine pure_by containsB_E 6 (fi := {fn := Tryd.f10, hooks := [], draws := []}) ⟨Tryd.func10, by kernel_rfl, by kernel_rfl⟩ ?_
  rintro _ K ⟨l, c, rfl, hK⟩
  replace hK : ∀ r, r = .bool (l.contains c) → K r := fun r h => h ▸ hK
  refine fun (hl : _ ≤ MAXL) => ?_
  conv => whnf
  refine loop_live [0, 1, 7] (σ := Nat) (fun i => [(8, .int .i64 i)]) (fun i => []) (fun i => i ≤ l.length ∧ c ∉ l.take i) (fun i => l.length - i) 0 ?_
  conv => whnf
  refine ⟨(by (refine wk_sel [] rfl rfl ?_ ?_ <;> (repeat' (first | exact True.intro | exact rfl | exact Or.inl rfl | exact Or.inr rfl | refine And.intro ?_ ?_ | fail)))), ⟨Nat.zero_le _, by simp⟩, fun i hi => ?_⟩
  obtain ⟨hi, hc⟩ := hi
  repeat' (first | exact True.intro | refine ⟨_, LeL.refl _, ?_⟩ | refine ⟨_, _, _, LeL.refl _, ?_⟩ | (refine fun (b : Bool) hb => ?_; cases b <;> (first | exact absurd hb (by decide) | exact Bool.noConfusion (show true = false from hb) | exact Bool.noConfusion (show false = true from hb) | skip)) | (refine fun (hl : _ ≤ MAXL) => ?_) | refine And.intro (a := I64 _) ?_ ?_ | refine And.intro (a := _ ≤ 140737488355328) ?_ ?_ | refine ⟨_, ⟨rfl, rfl⟩, ?_⟩ | refine ⟨_, And.intro (a := I64 _) ?_ ⟨rfl, rfl⟩, ?_⟩ | refine ⟨_, _, ⟨rfl, rfl⟩, ?_⟩ | refine ⟨_, (fun _ => ⟨rfl, rfl⟩), ?_⟩ | refine And.intro (a := chkPend _ _ _ _ _ _) ?_ ?_ | refine And.intro (a := chkPast _ _ _ _ _ _ _ _) ?_ ?_ | refine ⟨⟨rfl, rfl⟩, ?_⟩ | refine And.intro (And.intro rfl rfl) ?_ | refine ⟨True.intro, ?_⟩ | refine ⟨_, ⟨_, rfl, ?_, rfl, rfl, rfl⟩, ?_⟩ | refine ⟨_, rfl, ?_, rfl, ?_⟩ | refine ⟨_, (fun _ => rfl), rfl, ?_⟩ | refine ⟨(fun _ => rfl), ?_⟩ | refine ⟨rfl, ?_⟩ | refine Opt.a ?_ | fail)
  · refine hK _ ?_
    have e : l.take i = l := List.take_of_length_le (by grind)
    rw [e] at hc
    simp [hc]
  · grind
  · (first | omega | (unfold I64; omega) | (simp only [List.length_append, List.length_map, List.length_cons, List.length_nil, Nat.mul_one, Int.ofNat_eq_natCast] at *; omega) | (dsimp only at *; omega) | (unfold I64; dsimp only at *; omega) | (unfold I64; grind) | grind)
  · have hi2 : i < l.length := by grind
    refine ⟨i + 1, (by (refine wk_sel [] rfl rfl ?_ ?_ <;> (repeat' (first | exact True.intro | exact rfl | exact Or.inl rfl | exact Or.inr rfl | refine And.intro ?_ ?_ | fail)))), ⟨by grind, ?_⟩, by grind⟩
    rw [List.take_succ_eq_append_getElem hi2]
    simp only [List.mem_append, List.mem_singleton, not_or]
    refine ⟨hc, fun e => ?_⟩
    subst e
    simp at *
  · have hi2 : i < l.length := by grind
    refine hK _ ?_
    have e : c = l[i] := by
      apply UInt8.toNat_inj.1
      grind
    have h1 : l.contains c = true := by
      rw [e]
      simp
    have h2 : decide ((0 : Int) ≤ (i : Int)) = true := by simp
    rw [h1, h2]
end Gv
namespace Gv
variable [Glob] [Laid]
theorem index1_ca : callable Tryd.prog 45 = true := by kernel_rfl
def index1_S : Spec := fun args K => ∃ (l : List UInt8), args = [.sl byteV l, .sl byteV [10]] ∧ K (.int .i64 (idxB l 10))
set_option maxHeartbeats 4000000 in
theorem index1_ok : Pure Tryd.prog 45 index1_S := by
  refine pure_look fun w m args us K hm hg hl hv hT => ?_
  obtain ⟨l, rfl, hK⟩ := hT
  obtain ⟨a, b, rfl, ha, hb⟩ := args2 hl hv
  obtain ⟨p, c, rfl, hp, hlc, hc, hx⟩ := bytes_open ha hm
  obtain ⟨p2, c2, rfl, hp2, hlc2, hc2, hx2⟩ := bytes_open hb hm
  refine ⟨_, _, hK, .int, ?_⟩
  match p2, hp2, hx2 with
  | none, hp2, _ => exact absurd (hp2 rfl).1 (by simp)
  | some ⟨b2, o2, sp2⟩, _, hx2 =>
    obtain ⟨h1, h2⟩ := hx2 b2 o2 sp2 rfl
    have hs : sp2 = none := h1.resolve_right (by simp)
    subst hs
    have h3 := h2 0 (by simp)
    have h4 : w.cell? ⟨b2, o2, none⟩ = some (.int .u8 10) := by simpa [Addr.add, numsOf] using h3
    match p, hp, hx with
    | none, hp, _ =>
      obtain ⟨rfl, rfl⟩ := hp rfl
      exact (Tryd.bytes_Index_one_nil b2 o2 c2 10 w h4).mono fun e w' ⟨he, hw⟩ => ⟨by rw [he]; rfl, by subst hw; exact Bel.refl _ _⟩
    | some ⟨b1, o1, sp1⟩, _, hx =>
      refine (Tryd.bytes_Index_one_at ⟨b1, o1, sp1⟩ l.length c b2 o2 c2 (numsOf l) 10 w (numsOf_length l) (fun i hi => (hx b1 o1 sp1 rfl).2 i hi) h4).mono fun e w' ⟨he, hw⟩ => ⟨by rw [he, bytesOf_nums]; rfl, by subst hw; exact Bel.refl _ _⟩
end Gv
namespace Gv
variable [Glob] [Laid]
theorem cut_idx (l : Bs) : (cutNl l).2.2 = decide (0 ≤ idxB l 10) ∧ (0 ≤ idxB l 10 → idxB l 10 + 1 ≤ l.length ∧ (cutNl l).1 = l.take (idxB l 10).toNat ∧ (cutNl l).2.1 = l.drop ((idxB l 10).toNat + 1)) ∧ (idxB l 10 < 0 → cutNl l = (l, [], false)) := by
  unfold idxB
  rcases nl_cases l with h | ⟨a, r, rfl, ha⟩
  · have e : Lib.indexByte l 10 = -1 := by
      induction l with
      | nil => rfl
      | cons c l ih =>
        simp only [List.mem_cons, not_or] at h
        unfold Lib.indexByte
        rw [if_neg (by simpa using fun e => h.1 (e.symm)), ih h.2]
        rfl
    rw [e, cutNl_no h]
    refine ⟨rfl, fun h => by omega, fun _ => rfl⟩
  · have e : Lib.indexByte (a ++ 10 :: r) 10 = a.length := by
      induction a with
      | nil => rfl
      | cons c a ih =>
        simp only [List.mem_cons, not_or] at ha
        show Lib.indexByte (c :: (a ++ 10 :: r)) 10 = _
        unfold Lib.indexByte
        rw [if_neg (by simpa using fun e => ha.1 (e.symm)), ih ha.2, if_neg (by simp <;> omega)]
        simp
    rw [e, cutNl_nl ha]
    refine ⟨by simp, fun _ => ⟨by simp <;> omega, by simp, ?_⟩, fun h => by omega⟩
    rw [Int.toNat_natCast, show a.length + 1 = (a ++ [10]).length by simp, show a ++ 10 :: r = (a ++ [10]) ++ r by simp, List.drop_left]
theorem cut_ca : callable Tryd.prog 33 = true := by kernel_rfl
def cut_S : Spec := fun args K => ∃ (l : List UInt8), args = [.sl byteV l, .sl byteV [10]] ∧ l.length ≤ 1000000 ∧ K (.tup [.sl byteV (cutNl l).1, .sl byteV (cutNl l).2.1, .bool (cutNl l).2.2])
noncomputable def cut_lib : List (Nat × Spec) := [(45, index1_S)]
noncomputable def cut_fns : List (Nat × FnI) := []
noncomputable def cut_prims : List (Nat × PSpec) := []
theorem cut_E : EnvOK ⟨Tryd.prog, tys, cut_lib, cut_fns, cut_prims, []⟩ := env_ok mixed0 tys0 (.cons index1_ca index1_ok .nil) .nil .nil rfl
set_option maxHeartbeats 4000000 in
theorem cut_ok : Pure Tryd.prog 33 cut_S := by
  refine pure_by cut_E 6 (fi := {fn := Tryd.f33, hooks := [], draws := [(3, [0, 0, 3, 0, 0, 0, 32, 112, 248, 7, 1023, 2047])]}) ⟨Tryd.func33, by kernel_rfl, by kernel_rfl⟩ ?_
  rintro _ K ⟨l, rfl, hz, hK⟩
  replace hK : ∀ r, r = .tup [.sl byteV (cutNl l).1, .sl byteV (cutNl l).2.1, .bool (cutNl l).2.2] → K r := fun r h => h ▸ hK
  obtain ⟨h1, h2, h3⟩ := cut_idx l
  refine ⟨l, rfl, ?_⟩
  repeat' (first | exact True.intro | refine ⟨_, LeL.refl _, ?_⟩ | refine ⟨_, _, _, LeL.refl _, ?_⟩ | (refine fun (b : Bool) hb => ?_; cases b <;> (first | exact absurd hb (by decide) | exact Bool.noConfusion (show true = false from hb) | exact Bool.noConfusion (show false = true from hb) | skip)) | (refine fun (hl : _ ≤ MAXL) => ?_) | refine And.intro (a := I64 _) ?_ ?_ | refine And.intro (a := _ ≤ 140737488355328) ?_ ?_ | refine ⟨_, ⟨rfl, rfl⟩, ?_⟩ | refine ⟨_, And.intro (a := I64 _) ?_ ⟨rfl, rfl⟩, ?_⟩ | refine ⟨_, _, ⟨rfl, rfl⟩, ?_⟩ | refine ⟨_, (fun _ => ⟨rfl, rfl⟩), ?_⟩ | refine And.intro (a := chkPend _ _ _ _ _ _) ?_ ?_ | refine And.intro (a := chkPast _ _ _ _ _ _ _ _) ?_ ?_ | refine ⟨⟨rfl, rfl⟩, ?_⟩ | refine And.intro (And.intro rfl rfl) ?_ | refine ⟨True.intro, ?_⟩ | refine ⟨_, ⟨_, rfl, ?_, rfl, rfl, rfl⟩, ?_⟩ | refine ⟨_, rfl, ?_, rfl, ?_⟩ | refine ⟨_, (fun _ => rfl), rfl, ?_⟩ | refine ⟨(fun _ => rfl), ?_⟩ | refine ⟨rfl, ?_⟩ | refine Opt.a ?_ | refine ⟨UInt8, byteV, ?_⟩ | fail)
  · refine hK _ ?_
    rw [h3 (by grind)]
  have hi : 0 ≤ idxB l 10 := by grind
  obtain ⟨g1, g2, g3⟩ := h2 hi
  refine ⟨_, ⟨fun _ => rfl, (idxB l 10).toNat, by omega, by omega, rfl, rfl⟩, ?_⟩
  repeat' (first | exact True.intro | refine ⟨_, LeL.refl _, ?_⟩ | refine ⟨_, _, _, LeL.refl _, ?_⟩ | (refine fun (b : Bool) hb => ?_; cases b <;> (first | exact absurd hb (by decide) | exact Bool.noConfusion (show true = false from hb) | exact Bool.noConfusion (show false = true from hb) | skip)) | (refine fun (hl : _ ≤ MAXL) => ?_) | refine And.intro (a := I64 _) ?_ ?_ | refine And.intro (a := _ ≤ 140737488355328) ?_ ?_ | refine ⟨_, ⟨rfl, rfl⟩, ?_⟩ | refine ⟨_, And.intro (a := I64 _) ?_ ⟨rfl, rfl⟩, ?_⟩ | refine ⟨_, _, ⟨rfl, rfl⟩, ?_⟩ | refine ⟨_, (fun _ => ⟨rfl, rfl⟩), ?_⟩ | refine And.intro (a := chkPend _ _ _ _ _ _) ?_ ?_ | refine And.intro (a := chkPast _ _ _ _ _ _ _ _) ?_ ?_ | refine ⟨⟨rfl, rfl⟩, ?_⟩ | refine And.intro (And.intro rfl rfl) ?_ | refine ⟨True.intro, ?_⟩ | refine ⟨_, ⟨_, rfl, ?_, rfl, rfl, rfl⟩, ?_⟩ | refine ⟨_, rfl, ?_, rfl, ?_⟩ | refine ⟨_, (fun _ => rfl), rfl, ?_⟩ | refine ⟨(fun _ => rfl), ?_⟩ | refine ⟨rfl, ?_⟩ | refine Opt.a ?_ | fail)
  · simp only [List.length_cons, List.length_nil]
    unfold I64
    omega
  refine ⟨_, ⟨fun _ => rfl, (idxB l 10).toNat + 1, ?_, by omega, rfl, rfl⟩, ?_⟩
  · simp only [List.length_cons, List.length_nil]
    omega
  repeat' (first | exact True.intro | refine ⟨_, LeL.refl _, ?_⟩ | refine ⟨_, _, _, LeL.refl _, ?_⟩ | (refine fun (b : Bool) hb => ?_; cases b <;> (first | exact absurd hb (by decide) | exact Bool.noConfusion (show true = false from hb) | exact Bool.noConfusion (show false = true from hb) | skip)) | (refine fun (hl : _ ≤ MAXL) => ?_) | refine And.intro (a := I64 _) ?_ ?_ | refine And.intro (a := _ ≤ 140737488355328) ?_ ?_ | refine ⟨_, ⟨rfl, rfl⟩, ?_⟩ | refine ⟨_, And.intro (a := I64 _) ?_ ⟨rfl, rfl⟩, ?_⟩ | refine ⟨_, _, ⟨rfl, rfl⟩, ?_⟩ | refine ⟨_, (fun _ => ⟨rfl, rfl⟩), ?_⟩ | refine And.intro (a := chkPend _ _ _ _ _ _) ?_ ?_ | refine And.intro (a := chkPast _ _ _ _ _ _ _ _) ?_ ?_ | refine ⟨⟨rfl, rfl⟩, ?_⟩ | refine And.intro (And.intro rfl rfl) ?_ | refine ⟨True.intro, ?_⟩ | refine ⟨_, ⟨_, rfl, ?_, rfl, rfl, rfl⟩, ?_⟩ | refine ⟨_, rfl, ?_, rfl, ?_⟩ | refine ⟨_, (fun _ => rfl), rfl, ?_⟩ | refine ⟨(fun _ => rfl), ?_⟩ | refine ⟨rfl, ?_⟩ | refine Opt.a ?_ | fail)
  refine hK _ ?_
  rw [g2, g3, h1, decide_eq_true hi]
end Gv
namespace Gv
variable [Glob] [Laid]
theorem of_ca : callable Tryd.prog 22 = true := by kernel_rfl
def of_S : Spec := fun args K => ∃ (b : Bs), args = [.sl byteV b] ∧ b.length ≤ 1000000 ∧ K (.sl strV (linesOf b))
noncomputable def of_lib : List (Nat × Spec) := [(33, cut_S)]
noncomputable def of_fns : List (Nat × FnI) := []
noncomputable def of_prims : List (Nat × PSpec) := []
theorem of_E : EnvOK ⟨Tryd.prog, tys, of_lib, of_fns, of_prims, []⟩ := env_ok mixed0 tys0 (.cons cut_ca cut_ok .nil) .nil .nil rfl
set_option maxHeartbeats 4000000 in
theorem of_ok : Pure Tryd.prog 22 of_S := by
  refine pure_by of_E 6 (fi := {fn := Tryd.f22, hooks := [], draws := []}) ⟨Tryd.func22, by kernel_rfl, by kernel_rfl⟩ ?_
  rintro _ K ⟨b0, rfl, hz, hK⟩
  conv => whnf
  refine loop_live [] (σ := List Bs × Bs) (fun s => [(3, .own 0), (0, .sl byteV s.2)]) (fun s => [.row 1 (s.1.map strV)]) (fun s => s.1 ++ linesOf s.2 = linesOf b0 ∧ s.2.length + s.1.length ≤ 1000000) (fun s => s.2.length) ([], b0) ?_
  conv => whnf
  refine ⟨(by (refine wk_sel [none] rfl rfl ?_ ?_ <;> (repeat' (first | exact True.intro | exact rfl | exact Or.inl rfl | exact Or.inr rfl | refine And.intro ?_ ?_ | fail)))), ⟨rfl, hz⟩, fun s hs => ?_⟩
  obtain ⟨l, b⟩ := s
  obtain ⟨h1, h2⟩ := hs
  replace h1 : l ++ linesOf b = linesOf b0 := h1
  replace h2 : b.length + l.length ≤ 1000000 := h2
  repeat' (first | exact True.intro | refine ⟨_, LeL.refl _, ?_⟩ | refine ⟨_, _, _, LeL.refl _, ?_⟩ | (refine fun (b : Bool) hb => ?_; cases b <;> (first | exact absurd hb (by decide) | exact Bool.noConfusion (show true = false from hb) | exact Bool.noConfusion (show false = true from hb) | skip)) | (refine fun (hl : _ ≤ MAXL) => ?_) | refine And.intro (a := I64 _) ?_ ?_ | refine And.intro (a := _ ≤ 140737488355328) ?_ ?_ | refine ⟨_, ⟨rfl, rfl⟩, ?_⟩ | refine ⟨_, And.intro (a := I64 _) ?_ ⟨rfl, rfl⟩, ?_⟩ | refine ⟨_, _, ⟨rfl, rfl⟩, ?_⟩ | refine ⟨_, (fun _ => ⟨rfl, rfl⟩), ?_⟩ | refine And.intro (a := chkPend _ _ _ _ _ _) ?_ ?_ | refine And.intro (a := chkPast _ _ _ _ _ _ _ _) ?_ ?_ | refine ⟨⟨rfl, rfl⟩, ?_⟩ | refine And.intro (And.intro rfl rfl) ?_ | refine ⟨True.intro, ?_⟩ | refine ⟨_, ⟨_, rfl, ?_, rfl, rfl, rfl⟩, ?_⟩ | refine ⟨_, rfl, ?_, rfl, ?_⟩ | refine ⟨_, (fun _ => rfl), rfl, ?_⟩ | refine ⟨(fun _ => rfl), ?_⟩ | refine ⟨rfl, ?_⟩ | refine Opt.a ?_ | fail)
  · have : b = [] := by
      have h : decide (0 < (b.length : Int)) = false := by assumption
      cases b with
      | nil => rfl
      | cons c b => simp at h <;> omega
    subst this
    rw [linesOf_nil, List.append_nil] at h1
    rw [h1]
    exact hK
  have hb0 : b ≠ [] := by
    intro e
    subst e
    have h : decide ((0 : Int) < (([] : Bs).length : Int)) = true := by assumption
    simp at h
  have g1 := linesOf_cut hb0
  have g2 := cut_len hb0
  refine ⟨UInt8, byteV, [10], LeL.refl _, ?_⟩
  refine ⟨b, rfl, by omega, ?_⟩
  repeat' (first | exact True.intro | refine ⟨_, LeL.refl _, ?_⟩ | refine ⟨_, _, _, LeL.refl _, ?_⟩ | (refine fun (b : Bool) hb => ?_; cases b <;> (first | exact absurd hb (by decide) | exact Bool.noConfusion (show true = false from hb) | exact Bool.noConfusion (show false = true from hb) | skip)) | (refine fun (hl : _ ≤ MAXL) => ?_) | refine And.intro (a := I64 _) ?_ ?_ | refine And.intro (a := _ ≤ 140737488355328) ?_ ?_ | refine ⟨_, ⟨rfl, rfl⟩, ?_⟩ | refine ⟨_, And.intro (a := I64 _) ?_ ⟨rfl, rfl⟩, ?_⟩ | refine ⟨_, _, ⟨rfl, rfl⟩, ?_⟩ | refine ⟨_, (fun _ => ⟨rfl, rfl⟩), ?_⟩ | refine And.intro (a := chkPend _ _ _ _ _ _) ?_ ?_ | refine And.intro (a := chkPast _ _ _ _ _ _ _ _) ?_ ?_ | refine ⟨⟨rfl, rfl⟩, ?_⟩ | refine And.intro (And.intro rfl rfl) ?_ | refine ⟨True.intro, ?_⟩ | refine ⟨_, ⟨_, rfl, ?_, rfl, rfl, rfl⟩, ?_⟩ | refine ⟨_, rfl, ?_, rfl, ?_⟩ | refine ⟨_, (fun _ => rfl), rfl, ?_⟩ | refine ⟨(fun _ => rfl), ?_⟩ | refine ⟨rfl, ?_⟩ | refine Opt.a ?_ | fail)
  · simp only [List.length_map, List.length_cons, List.length_nil]
    have := List.length_pos_iff.2 hb0
    omega
  · refine ⟨(l ++ [(cutNl b).1], (cutNl b).2.1), ?_, ⟨?_, ?_⟩, g2.1⟩
    · refine wk_sel [some 3] rfl rfl ⟨?_, trivial⟩ ?_
      · rw [List.map_append]
        exact rfl
      · (repeat' (first | exact True.intro | exact rfl | exact Or.inl rfl | exact Or.inr rfl | refine And.intro ?_ ?_ | fail))
    · rw [← h1, g1, List.append_assoc]
      rfl
    · simp only [List.length_append, List.length_cons, List.length_nil]
      omega
end Gv
namespace Gv
variable [Glob] [Laid]
def lineOf (b : Bs) : List Bs × Int := if 4000 < b.length then ([], 2) else (linesOf b, 0)
theorem Of_ca : callable Tryd.prog 11 = true := by kernel_rfl
def Of_S : Spec := fun args K => ∃ (b : Bs), args = [.sl byteV b] ∧ K (.tup [.sl strV (lineOf b).1, .int .i64 (lineOf b).2])
noncomputable def Of_lib : List (Nat × Spec) := [(22, of_S)]
noncomputable def Of_fns : List (Nat × FnI) := []
noncomputable def Of_prims : List (Nat × PSpec) := []
theorem Of_E : EnvOK ⟨Tryd.prog, tys, Of_lib, Of_fns, Of_prims, []⟩ := env_ok mixed0 tys0 (.cons of_ca of_ok .nil) .nil .nil rfl
set_option maxHeartbeats 4000000 in
theorem Of_ok : Pure Tryd.prog 11 Of_S := by
  refine pure_by Of_E 6 (fi := {fn := Tryd.f11, hooks := [], draws := []}) ⟨Tryd.func11, by kernel_rfl, by kernel_rfl⟩ ?_
  rintro _ K ⟨b, rfl, hK⟩
  replace hK : ∀ r, r = .tup [.sl strV (lineOf b).1, .int .i64 (lineOf b).2] → K r := fun r h => h ▸ hK
  repeat' (first | exact True.intro | refine ⟨_, LeL.refl _, ?_⟩ | refine ⟨_, _, _, LeL.refl _, ?_⟩ | (refine fun (b : Bool) hb => ?_; cases b <;> (first | exact absurd hb (by decide) | exact Bool.noConfusion (show true = false from hb) | exact Bool.noConfusion (show false = true from hb) | skip)) | (refine fun (hl : _ ≤ MAXL) => ?_) | refine And.intro (a := I64 _) ?_ ?_ | refine And.intro (a := _ ≤ 140737488355328) ?_ ?_ | refine ⟨_, ⟨rfl, rfl⟩, ?_⟩ | refine ⟨_, And.intro (a := I64 _) ?_ ⟨rfl, rfl⟩, ?_⟩ | refine ⟨_, _, ⟨rfl, rfl⟩, ?_⟩ | refine ⟨_, (fun _ => ⟨rfl, rfl⟩), ?_⟩ | refine And.intro (a := chkPend _ _ _ _ _ _) ?_ ?_ | refine And.intro (a := chkPast _ _ _ _ _ _ _ _) ?_ ?_ | refine ⟨⟨rfl, rfl⟩, ?_⟩ | refine And.intro (And.intro rfl rfl) ?_ | refine ⟨True.intro, ?_⟩ | refine ⟨_, ⟨_, rfl, ?_, rfl, rfl, rfl⟩, ?_⟩ | refine ⟨_, rfl, ?_, rfl, ?_⟩ | refine ⟨_, (fun _ => rfl), rfl, ?_⟩ | refine ⟨(fun _ => rfl), ?_⟩ | refine ⟨rfl, ?_⟩ | refine Opt.a ?_ | refine ⟨Bs, strV, ?_⟩ | fail)
  · refine ⟨b, rfl, by grind, ?_⟩
    refine hK _ ?_
    unfold lineOf
    rw [if_neg (by grind)]
  · refine hK _ ?_
    unfold lineOf
    rw [if_pos (by grind)]
end Gv
namespace Gv
variable [Glob] [Laid]
theorem containsS_ca : callable Tryd.prog 38 = true := by kernel_rfl
def containsS_S : Spec := fun args K => ∃ (s sub : Bs), args = [.str s, .str sub] ∧ s.length < 4294967281 ∧ K (.bool (Lib.contains s sub))
set_option maxHeartbeats 4000000 in
theorem containsS_ok : Pure Tryd.prog 38 containsS_S := by
  intro w m args us K hm hg hv hT
  obtain ⟨s, sub, rfl, h1, hK⟩ := hT
  obtain ⟨a, b, rfl, ha, hb⟩ := args2 hv.1 hv.2
  obtain ⟨rfl, -⟩ := vr_str ha
  obtain ⟨rfl, -⟩ := vr_str hb
  obtain ⟨n, hn⟩ := Laid.maxlen w (fun b o e => hm b o (hg b o e))
  refine (Tryd.strings_Contains (ba s) (ba sub) n w (by rw [ba_size]; exact h1) hn).mono fun e w' ⟨he, hw⟩ => ?_
  subst hw
  exact ⟨_, _, he, Bel.refl _ _, hK, .bool⟩
end Gv
namespace Gv
variable [Glob] [Laid]
theorem replaceS_ca : callable Tryd.prog 39 = true := by kernel_rfl
def replaceS_S : Spec := fun args K => ∃ (s old new : Bs), args = [.str s, .str old, .str new] ∧ (s.length < 4294967281 ∧ 1 ≤ old.length ∧ s.length + Lib.count s old * new.length ≤ 140737488355328 ∧ (Lib.replaceAll s old new).length ≤ MAXL) ∧ K (.str (Lib.replaceAll s old new))
set_option maxHeartbeats 4000000 in
theorem replaceS_ok : Pure Tryd.prog 39 replaceS_S := by
  intro w m args us K hm hg hv hT
  obtain ⟨s, old, new, rfl, ⟨h1, h2, h3, h4⟩, hK⟩ := hT
  obtain ⟨a, b, c, rfl, ha, hb, hc⟩ := args3 hv.1 hv.2
  obtain ⟨rfl, -⟩ := vr_str ha
  obtain ⟨rfl, -⟩ := vr_str hb
  obtain ⟨rfl, -⟩ := vr_str hc
  obtain ⟨n, hn⟩ := Laid.maxlen w (fun b o e => hm b o (hg b o e))
  refine (Tryd.strings_ReplaceAll (ba s) (ba old) (ba new) n w (by rw [ba_size]; exact h1) hn (by rw [ba_size]; exact h2) (by rw [ba_size, ba_size]; exact h3)).mono fun e w' ⟨he, hw⟩ => ?_
  exact ⟨_, _, he, Bel.of_below hw, hK, .str h4⟩
end Gv
namespace Gv
variable [Glob] [Laid]
theorem splitS_ca : callable Tryd.prog 32 = true := by kernel_rfl
def splitS_S : Spec := fun args K => ∃ (s sep : Bs), args = [.str s, .str sep] ∧ (s.length < 4294967281 ∧ 1 ≤ sep.length) ∧ K (.sl strV (Lib.split s sep))
set_option maxHeartbeats 4000000 in
theorem splitS_ok : Pure Tryd.prog 32 splitS_S := by
  intro w m args us K hm hg hv hT
  obtain ⟨s, sep, rfl, ⟨h1, h2⟩, hK⟩ := hT
  obtain ⟨a, b, rfl, ha, hb⟩ := args2 hv.1 hv.2
  obtain ⟨rfl, -⟩ := vr_str ha
  obtain ⟨rfl, -⟩ := vr_str hb
  obtain ⟨n, hn⟩ := Laid.maxlen w (fun b o e => hm b o (hg b o e))
  refine (Tryd.strings_Split (ba s) (ba sep) n w (by rw [ba_size]; exact h1) hn (by rw [ba_size]; exact h2)).mono fun e w' ⟨he, hw⟩ => ?_
  subst hw
  rw [split_cells] at *
  have hc : Lib.countB (ba s) (ba sep) + 1 = (Lib.split s sep).length := (split_len s sep h2).symm
  have hle : (Lib.split s sep).length ≤ s.length + 2 := by
    rw [← hc]
    have := Lib.count_le s sep
    show Lib.count s sep + 1 ≤ _
    omega
  refine ⟨_, _, by rw [he, hc], Bel.alloc [] w _, hK, strs_new (Gw.heap_alloc_new w _) (by unfold MAXL; omega) fun x hx => ?_⟩
  have := splitK_le sep _ s x hx
  unfold MAXL
  omega
end Gv
namespace Gv
variable [Glob] [Laid]
def swp (l : Bs) (i : Nat) : Bs := (List.range l.length).map fun k => if k < i ∨ l.length - 1 - k < i then l.getD (l.length - 1 - k) 0 else l.getD k 0
theorem swp_len (l : Bs) (i : Nat) : (swp l i).length = l.length := by simp [swp]
theorem swp_0 (l : Bs) : swp l 0 = l := by
  refine List.ext_getElem (by simp [swp]) fun i h1 h2 => ?_
  simp [swp, h2]
theorem swp_end (l : Bs) (i : Nat) (h : l.length ≤ 2 * i + 1) : swp l i = l.reverse := by
  refine List.ext_getElem (by simp [swp]) fun k h1 h2 => ?_
  have hk : k < l.length := by simpa using h2
  simp only [swp, List.getElem_map, List.getElem_range, List.getElem_reverse]
  by_cases hc : k < i ∨ l.length - 1 - k < i
  · rw [if_pos hc, List.getD_eq_getElem?_getD, List.getElem?_eq_getElem (by omega)]
    rfl
  · rw [if_neg hc, List.getD_eq_getElem?_getD, List.getElem?_eq_getElem hk]
    have e : l.length - 1 - k = k := by omega
    simp only [e]
    rfl
theorem swp_next (l : Bs) (i : Nat) (h : 2 * i + 1 < l.length) : ((swp l i).set i (l.getD (l.length - 1 - i) 0)).set (l.length - 1 - i) (l.getD i 0) = swp l (i + 1) := by
  refine List.ext_getElem (by simp [swp]) fun k h1 h2 => ?_
  have hk : k < l.length := by simpa [swp] using h2
  rw [List.getElem_set, List.getElem_set]
  simp only [swp, List.getElem_map, List.getElem_range]
  by_cases e1 : l.length - 1 - i = k
  · rw [if_pos e1, if_pos (by omega)]
    have : l.length - 1 - k = i := by omega
    rw [this]
  · rw [if_neg e1]
    by_cases e2 : i = k
    · rw [if_pos e2, if_pos (by omega), e2]
    · rw [if_neg e2]
      by_cases hc : k < i ∨ l.length - 1 - k < i
      · rw [if_pos hc, if_pos (by omega)]
      · rw [if_neg hc, if_neg (by omega)]
theorem swp_at (l : Bs) (i k : Nat) (hk : k < l.length) (h : ¬ (k < i ∨ l.length - 1 - k < i)) : (swp l i)[k]? = some (l.getD k 0) := by
  unfold swp
  rw [List.getElem?_map, List.getElem?_range hk]
  simp only [Option.map_some]
  rw [if_neg h]
theorem revB_ca : callable Tryd.prog 40 = true := by kernel_rfl
def revB_P : PSpec := fun args rows K => ∃ (l : Bs), args = [.own 0] ∧ rows = [.row 1 (l.map byteV)] ∧ l.length ≤ 1000000 ∧ K (.tup []) [.row 1 (l.reverse.map byteV)]
noncomputable def revB_lib : List (Nat × Spec) := []
noncomputable def revB_fns : List (Nat × FnI) := []
noncomputable def revB_prims : List (Nat × PSpec) := []
theorem revB_E : EnvOK ⟨Tryd.prog, tys, revB_lib, revB_fns, revB_prims, []⟩ := env_ok mixed0 tys0 .nil .nil .nil rfl
set_option maxHeartbeats 4000000 in
theorem revB_prim : PrimOK Tryd.prog 40 revB_P := by
  refine prim_by revB_E 6 revB_ca (fi := {fn := Tryd.f40, hooks := [], draws := [(3, [0, 0, 0, 0, 0, 0, 48, 112, 0, 0, 768, 1792, 4083, 8179, 16383, 32767])]}) ⟨Tryd.func40, by kernel_rfl, by kernel_rfl⟩ ?_
  rintro args rows K ⟨l, rfl, rfl, hz, hK⟩
  repeat' (first | exact True.intro | refine ⟨_, LeL.refl _, ?_⟩ | refine ⟨_, _, _, LeL.refl _, ?_⟩ | (refine fun (b : Bool) hb => ?_; cases b <;> (first | exact absurd hb (by decide) | exact Bool.noConfusion (show true = false from hb) | exact Bool.noConfusion (show false = true from hb) | skip)) | (refine fun (hl : _ ≤ MAXL) => ?_) | refine And.intro (a := I64 _) ?_ ?_ | refine And.intro (a := _ ≤ 140737488355328) ?_ ?_ | refine ⟨_, ⟨rfl, rfl⟩, ?_⟩ | refine ⟨_, And.intro (a := I64 _) ?_ ⟨rfl, rfl⟩, ?_⟩ | refine ⟨_, _, ⟨rfl, rfl⟩, ?_⟩ | refine ⟨_, (fun _ => ⟨rfl, rfl⟩), ?_⟩ | refine And.intro (a := chkPend _ _ _ _ _ _) ?_ ?_ | refine And.intro (a := chkPast _ _ _ _ _ _ _ _) ?_ ?_ | refine ⟨⟨rfl, rfl⟩, ?_⟩ | refine And.intro (And.intro rfl rfl) ?_ | refine ⟨True.intro, ?_⟩ | refine ⟨_, ⟨_, rfl, ?_, rfl, rfl, rfl⟩, ?_⟩ | refine ⟨_, rfl, ?_, rfl, ?_⟩ | refine ⟨_, (fun _ => rfl), rfl, ?_⟩ | refine ⟨(fun _ => rfl), ?_⟩ | refine ⟨rfl, ?_⟩ | refine Opt.a ?_ | fail)
  · (first | omega | (unfold I64; omega) | (simp only [List.length_append, List.length_map, List.length_cons, List.length_nil, Nat.mul_one, Int.ofNat_eq_natCast] at *; omega) | (dsimp only at *; omega) | (unfold I64; dsimp only at *; omega) | (unfold I64; grind) | grind)
  conv => whnf
  refine loop_live [0] (σ := Nat × Int × Bs) (fun s => [(2, .int .i64 s.1), (3, .int .i64 s.2.1)]) (fun s => [.row 1 (s.2.2.map byteV)]) (fun s => s.2.1 = (l.length : Int) - 1 - s.1 ∧ s.2.2 = swp l s.1 ∧ 2 * s.1 ≤ l.length + 1) (fun s => l.length + 1 - s.1) (0, ((l.map byteV).length : Int) - 1, l) ?_
  conv => whnf
  refine ⟨(by (refine wk_auto ?_; refine Sel4.mk rfl rfl ?_ ?_ <;> (repeat' (first | exact True.intro | exact rfl | exact Or.inl rfl | exact Or.inr rfl | refine And.intro ?_ ?_ | fail)))), ⟨by simp, (swp_0 l).symm, by omega⟩, fun s hs => ?_⟩
  obtain ⟨i, j, d⟩ := s
  obtain ⟨hj, hd, hi⟩ := hs
  dsimp only at hj hd hi
  have hdl : d.length = l.length := by rw [hd, swp_len]
  repeat' (first | exact True.intro | refine ⟨_, LeL.refl _, ?_⟩ | refine ⟨_, _, _, LeL.refl _, ?_⟩ | (refine fun (b : Bool) hb => ?_; cases b <;> (first | exact absurd hb (by decide) | exact Bool.noConfusion (show true = false from hb) | exact Bool.noConfusion (show false = true from hb) | skip)) | (refine fun (hl : _ ≤ MAXL) => ?_) | refine And.intro (a := I64 _) ?_ ?_ | refine And.intro (a := _ ≤ 140737488355328) ?_ ?_ | refine ⟨_, ⟨rfl, rfl⟩, ?_⟩ | refine ⟨_, And.intro (a := I64 _) ?_ ⟨rfl, rfl⟩, ?_⟩ | refine ⟨_, _, ⟨rfl, rfl⟩, ?_⟩ | refine ⟨_, (fun _ => ⟨rfl, rfl⟩), ?_⟩ | refine And.intro (a := chkPend _ _ _ _ _ _) ?_ ?_ | refine And.intro (a := chkPast _ _ _ _ _ _ _ _) ?_ ?_ | refine ⟨⟨rfl, rfl⟩, ?_⟩ | refine And.intro (And.intro rfl rfl) ?_ | refine ⟨True.intro, ?_⟩ | refine ⟨_, ⟨_, rfl, ?_, rfl, rfl, rfl⟩, ?_⟩ | refine ⟨_, rfl, ?_, rfl, ?_⟩ | refine ⟨_, (fun _ => rfl), rfl, ?_⟩ | refine ⟨(fun _ => rfl), ?_⟩ | refine ⟨rfl, ?_⟩ | refine Opt.a ?_ | fail)
  · have hij : ¬ (i : Int) < j := of_decide_eq_false (by assumption)
    have : d = l.reverse := by rw [hd, swp_end _ _ (by omega)]
    rw [this]
    conv => whnf
    exact hK
  have hij : (i : Int) < j := of_decide_eq_true (by assumption)
  obtain ⟨k, hk⟩ : ∃ k : Nat, j = k := ⟨j.toNat, by omega⟩
  subst hk
  have hkl : k < d.length := by omega
  have hil : i < d.length := by omega
  have gk : (List.map byteV d)[k]? = some (byteV d[k]) := by rw [List.getElem?_map, List.getElem?_eq_getElem hkl]; rfl
  have gi : (List.map byteV d)[i]? = some (byteV d[i]) := by rw [List.getElem?_map, List.getElem?_eq_getElem hil]; rfl
  refine ⟨_, ⟨rfl, k, rfl, by simpa using hkl, ⟨rfl, rfl⟩⟩, ?_⟩
  repeat' (first | exact True.intro | refine ⟨_, LeL.refl _, ?_⟩ | refine ⟨_, _, _, LeL.refl _, ?_⟩ | (refine fun (b : Bool) hb => ?_; cases b <;> (first | exact absurd hb (by decide) | exact Bool.noConfusion (show true = false from hb) | exact Bool.noConfusion (show false = true from hb) | skip)) | (refine fun (hl : _ ≤ MAXL) => ?_) | refine And.intro (a := I64 _) ?_ ?_ | refine And.intro (a := _ ≤ 140737488355328) ?_ ?_ | refine ⟨_, ⟨rfl, rfl⟩, ?_⟩ | refine ⟨_, And.intro (a := I64 _) ?_ ⟨rfl, rfl⟩, ?_⟩ | refine ⟨_, _, ⟨rfl, rfl⟩, ?_⟩ | refine ⟨_, (fun _ => ⟨rfl, rfl⟩), ?_⟩ | refine And.intro (a := chkPend _ _ _ _ _ _) ?_ ?_ | refine And.intro (a := chkPast _ _ _ _ _ _ _ _) ?_ ?_ | refine ⟨⟨rfl, rfl⟩, ?_⟩ | refine And.intro (And.intro rfl rfl) ?_ | refine ⟨True.intro, ?_⟩ | refine ⟨_, ⟨_, rfl, ?_, rfl, rfl, rfl⟩, ?_⟩ | refine ⟨_, rfl, ?_, rfl, ?_⟩ | refine ⟨_, (fun _ => rfl), rfl, ?_⟩ | refine ⟨(fun _ => rfl), ?_⟩ | refine ⟨rfl, ?_⟩ | refine Opt.a ?_ | fail)
  conv => whnf
  refine ⟨_, ⟨_, gk, ⟨rfl, rfl⟩⟩, ?_⟩
  repeat' (first | exact True.intro | refine ⟨_, LeL.refl _, ?_⟩ | refine ⟨_, _, _, LeL.refl _, ?_⟩ | (refine fun (b : Bool) hb => ?_; cases b <;> (first | exact absurd hb (by decide) | exact Bool.noConfusion (show true = false from hb) | exact Bool.noConfusion (show false = true from hb) | skip)) | (refine fun (hl : _ ≤ MAXL) => ?_) | refine And.intro (a := I64 _) ?_ ?_ | refine And.intro (a := _ ≤ 140737488355328) ?_ ?_ | refine ⟨_, ⟨rfl, rfl⟩, ?_⟩ | refine ⟨_, And.intro (a := I64 _) ?_ ⟨rfl, rfl⟩, ?_⟩ | refine ⟨_, _, ⟨rfl, rfl⟩, ?_⟩ | refine ⟨_, (fun _ => ⟨rfl, rfl⟩), ?_⟩ | refine And.intro (a := chkPend _ _ _ _ _ _) ?_ ?_ | refine And.intro (a := chkPast _ _ _ _ _ _ _ _) ?_ ?_ | refine ⟨⟨rfl, rfl⟩, ?_⟩ | refine And.intro (And.intro rfl rfl) ?_ | refine ⟨True.intro, ?_⟩ | refine ⟨_, ⟨_, rfl, ?_, rfl, rfl, rfl⟩, ?_⟩ | refine ⟨_, rfl, ?_, rfl, ?_⟩ | refine ⟨_, (fun _ => rfl), rfl, ?_⟩ | refine ⟨(fun _ => rfl), ?_⟩ | refine ⟨rfl, ?_⟩ | refine Opt.a ?_ | fail)
  conv => whnf
  refine ⟨_, ⟨rfl, i, rfl, by simpa using hil, ⟨rfl, rfl⟩⟩, ?_⟩
  repeat' (first | exact True.intro | refine ⟨_, LeL.refl _, ?_⟩ | refine ⟨_, _, _, LeL.refl _, ?_⟩ | (refine fun (b : Bool) hb => ?_; cases b <;> (first | exact absurd hb (by decide) | exact Bool.noConfusion (show true = false from hb) | exact Bool.noConfusion (show false = true from hb) | skip)) | (refine fun (hl : _ ≤ MAXL) => ?_) | refine And.intro (a := I64 _) ?_ ?_ | refine And.intro (a := _ ≤ 140737488355328) ?_ ?_ | refine ⟨_, ⟨rfl, rfl⟩, ?_⟩ | refine ⟨_, And.intro (a := I64 _) ?_ ⟨rfl, rfl⟩, ?_⟩ | refine ⟨_, _, ⟨rfl, rfl⟩, ?_⟩ | refine ⟨_, (fun _ => ⟨rfl, rfl⟩), ?_⟩ | refine And.intro (a := chkPend _ _ _ _ _ _) ?_ ?_ | refine And.intro (a := chkPast _ _ _ _ _ _ _ _) ?_ ?_ | refine ⟨⟨rfl, rfl⟩, ?_⟩ | refine And.intro (And.intro rfl rfl) ?_ | refine ⟨True.intro, ?_⟩ | refine ⟨_, ⟨_, rfl, ?_, rfl, rfl, rfl⟩, ?_⟩ | refine ⟨_, rfl, ?_, rfl, ?_⟩ | refine ⟨_, (fun _ => rfl), rfl, ?_⟩ | refine ⟨(fun _ => rfl), ?_⟩ | refine ⟨rfl, ?_⟩ | refine Opt.a ?_ | fail)
  conv => whnf
  refine ⟨_, ⟨_, gi, ⟨rfl, rfl⟩⟩, ?_⟩
  repeat' (first | exact True.intro | refine ⟨_, LeL.refl _, ?_⟩ | refine ⟨_, _, _, LeL.refl _, ?_⟩ | (refine fun (b : Bool) hb => ?_; cases b <;> (first | exact absurd hb (by decide) | exact Bool.noConfusion (show true = false from hb) | exact Bool.noConfusion (show false = true from hb) | skip)) | (refine fun (hl : _ ≤ MAXL) => ?_) | refine And.intro (a := I64 _) ?_ ?_ | refine And.intro (a := _ ≤ 140737488355328) ?_ ?_ | refine ⟨_, ⟨rfl, rfl⟩, ?_⟩ | refine ⟨_, And.intro (a := I64 _) ?_ ⟨rfl, rfl⟩, ?_⟩ | refine ⟨_, _, ⟨rfl, rfl⟩, ?_⟩ | refine ⟨_, (fun _ => ⟨rfl, rfl⟩), ?_⟩ | refine And.intro (a := chkPend _ _ _ _ _ _) ?_ ?_ | refine And.intro (a := chkPast _ _ _ _ _ _ _ _) ?_ ?_ | refine ⟨⟨rfl, rfl⟩, ?_⟩ | refine And.intro (And.intro rfl rfl) ?_ | refine ⟨True.intro, ?_⟩ | refine ⟨_, ⟨_, rfl, ?_, rfl, rfl, rfl⟩, ?_⟩ | refine ⟨_, rfl, ?_, rfl, ?_⟩ | refine ⟨_, (fun _ => rfl), rfl, ?_⟩ | refine ⟨(fun _ => rfl), ?_⟩ | refine ⟨rfl, ?_⟩ | refine Opt.a ?_ | fail)
  conv => whnf
  refine ⟨_, ⟨rfl, i, rfl, by simpa using hil, ⟨rfl, rfl⟩⟩, ?_⟩
  repeat' (first | exact True.intro | refine ⟨_, LeL.refl _, ?_⟩ | refine ⟨_, _, _, LeL.refl _, ?_⟩ | (refine fun (b : Bool) hb => ?_; cases b <;> (first | exact absurd hb (by decide) | exact Bool.noConfusion (show true = false from hb) | exact Bool.noConfusion (show false = true from hb) | skip)) | (refine fun (hl : _ ≤ MAXL) => ?_) | refine And.intro (a := I64 _) ?_ ?_ | refine And.intro (a := _ ≤ 140737488355328) ?_ ?_ | refine ⟨_, ⟨rfl, rfl⟩, ?_⟩ | refine ⟨_, And.intro (a := I64 _) ?_ ⟨rfl, rfl⟩, ?_⟩ | refine ⟨_, _, ⟨rfl, rfl⟩, ?_⟩ | refine ⟨_, (fun _ => ⟨rfl, rfl⟩), ?_⟩ | refine And.intro (a := chkPend _ _ _ _ _ _) ?_ ?_ | refine And.intro (a := chkPast _ _ _ _ _ _ _ _) ?_ ?_ | refine ⟨⟨rfl, rfl⟩, ?_⟩ | refine And.intro (And.intro rfl rfl) ?_ | refine ⟨True.intro, ?_⟩ | refine ⟨_, ⟨_, rfl, ?_, rfl, rfl, rfl⟩, ?_⟩ | refine ⟨_, rfl, ?_, rfl, ?_⟩ | refine ⟨_, (fun _ => rfl), rfl, ?_⟩ | refine ⟨(fun _ => rfl), ?_⟩ | refine ⟨rfl, ?_⟩ | refine Opt.a ?_ | fail)
  refine ⟨_, _, ⟨by simpa using hil, rfl, rfl⟩, ?_⟩
  repeat' (first | exact True.intro | refine ⟨_, LeL.refl _, ?_⟩ | refine ⟨_, _, _, LeL.refl _, ?_⟩ | (refine fun (b : Bool) hb => ?_; cases b <;> (first | exact absurd hb (by decide) | exact Bool.noConfusion (show true = false from hb) | exact Bool.noConfusion (show false = true from hb) | skip)) | (refine fun (hl : _ ≤ MAXL) => ?_) | refine And.intro (a := I64 _) ?_ ?_ | refine And.intro (a := _ ≤ 140737488355328) ?_ ?_ | refine ⟨_, ⟨rfl, rfl⟩, ?_⟩ | refine ⟨_, And.intro (a := I64 _) ?_ ⟨rfl, rfl⟩, ?_⟩ | refine ⟨_, _, ⟨rfl, rfl⟩, ?_⟩ | refine ⟨_, (fun _ => ⟨rfl, rfl⟩), ?_⟩ | refine And.intro (a := chkPend _ _ _ _ _ _) ?_ ?_ | refine And.intro (a := chkPast _ _ _ _ _ _ _ _) ?_ ?_ | refine ⟨⟨rfl, rfl⟩, ?_⟩ | refine And.intro (And.intro rfl rfl) ?_ | refine ⟨True.intro, ?_⟩ | refine ⟨_, ⟨_, rfl, ?_, rfl, rfl, rfl⟩, ?_⟩ | refine ⟨_, rfl, ?_, rfl, ?_⟩ | refine ⟨_, (fun _ => rfl), rfl, ?_⟩ | refine ⟨(fun _ => rfl), ?_⟩ | refine ⟨rfl, ?_⟩ | refine Opt.a ?_ | fail)
  conv => whnf
  refine ⟨_, ⟨rfl, k, rfl, by simpa using hkl, ⟨rfl, rfl⟩⟩, ?_⟩
  repeat' (first | exact True.intro | refine ⟨_, LeL.refl _, ?_⟩ | refine ⟨_, _, _, LeL.refl _, ?_⟩ | (refine fun (b : Bool) hb => ?_; cases b <;> (first | exact absurd hb (by decide) | exact Bool.noConfusion (show true = false from hb) | exact Bool.noConfusion (show false = true from hb) | skip)) | (refine fun (hl : _ ≤ MAXL) => ?_) | refine And.intro (a := I64 _) ?_ ?_ | refine And.intro (a := _ ≤ 140737488355328) ?_ ?_ | refine ⟨_, ⟨rfl, rfl⟩, ?_⟩ | refine ⟨_, And.intro (a := I64 _) ?_ ⟨rfl, rfl⟩, ?_⟩ | refine ⟨_, _, ⟨rfl, rfl⟩, ?_⟩ | refine ⟨_, (fun _ => ⟨rfl, rfl⟩), ?_⟩ | refine And.intro (a := chkPend _ _ _ _ _ _) ?_ ?_ | refine And.intro (a := chkPast _ _ _ _ _ _ _ _) ?_ ?_ | refine ⟨⟨rfl, rfl⟩, ?_⟩ | refine And.intro (And.intro rfl rfl) ?_ | refine ⟨True.intro, ?_⟩ | refine ⟨_, ⟨_, rfl, ?_, rfl, rfl, rfl⟩, ?_⟩ | refine ⟨_, rfl, ?_, rfl, ?_⟩ | refine ⟨_, (fun _ => rfl), rfl, ?_⟩ | refine ⟨(fun _ => rfl), ?_⟩ | refine ⟨rfl, ?_⟩ | refine Opt.a ?_ | fail)
  conv => whnf
  refine ⟨_, _, ⟨by simpa using hkl, rfl, rfl⟩, ?_⟩
  repeat' (first | exact True.intro | refine ⟨_, LeL.refl _, ?_⟩ | refine ⟨_, _, _, LeL.refl _, ?_⟩ | (refine fun (b : Bool) hb => ?_; cases b <;> (first | exact absurd hb (by decide) | exact Bool.noConfusion (show true = false from hb) | exact Bool.noConfusion (show false = true from hb) | skip)) | (refine fun (hl : _ ≤ MAXL) => ?_) | refine And.intro (a := I64 _) ?_ ?_ | refine And.intro (a := _ ≤ 140737488355328) ?_ ?_ | refine ⟨_, ⟨rfl, rfl⟩, ?_⟩ | refine ⟨_, And.intro (a := I64 _) ?_ ⟨rfl, rfl⟩, ?_⟩ | refine ⟨_, _, ⟨rfl, rfl⟩, ?_⟩ | refine ⟨_, (fun _ => ⟨rfl, rfl⟩), ?_⟩ | refine And.intro (a := chkPend _ _ _ _ _ _) ?_ ?_ | refine And.intro (a := chkPast _ _ _ _ _ _ _ _) ?_ ?_ | refine ⟨⟨rfl, rfl⟩, ?_⟩ | refine And.intro (And.intro rfl rfl) ?_ | refine ⟨True.intro, ?_⟩ | refine ⟨_, ⟨_, rfl, ?_, rfl, rfl, rfl⟩, ?_⟩ | refine ⟨_, rfl, ?_, rfl, ?_⟩ | refine ⟨_, (fun _ => rfl), rfl, ?_⟩ | refine ⟨(fun _ => rfl), ?_⟩ | refine ⟨rfl, ?_⟩ | refine Opt.a ?_ | fail)
  · unfold I64
    dsimp only
    omega
  · unfold I64
    dsimp only
    omega
  have ek : k = l.length - 1 - i := by omega
  have e1 : d[k] = l.getD k 0 := by
    have h := swp_at l i k (by omega) (by omega)
    rw [← hd, List.getElem?_eq_getElem hkl] at h
    exact Option.some.inj h
  have e2 : d[i] = l.getD i 0 := by
    have h := swp_at l i i (by omega) (by omega)
    rw [← hd, List.getElem?_eq_getElem hil] at h
    exact Option.some.inj h
  refine ⟨(i + 1, (k : Int) - 1, (d.set i d[k]).set k d[i]), ?_, ⟨?_, ?_, ?_⟩, ?_⟩
  rotate_left
  · show (k : Int) - 1 = (l.length : Int) - 1 - ((i + 1 : Nat) : Int)
    omega
  · show (d.set i d[k]).set k d[i] = swp l (i + 1)
    rw [e1, e2, hd, ek]
    exact swp_next l i (by omega)
  · show 2 * (i + 1) ≤ l.length + 1
    omega
  · show l.length + 1 - (i + 1) < l.length + 1 - i
    omega
  (refine wk_auto ?_; refine Sel4.mk rfl rfl ?_ ?_ <;> (repeat' (first | exact True.intro | exact rfl | exact Or.inl rfl | exact Or.inr rfl | refine And.intro ?_ ?_ | fail)))
  all_goals try (show Row.row 1 _ = Row.row 1 _)
  simp [List.map_set]
end Gv
namespace Gv
variable [Glob] [Laid]
theorem one_ca : callable Tryd.prog 30 = true := by kernel_rfl
def one_S : Spec := fun args K => ∃ (c : Cmd) (s : Bs), args = [cmdV c, .str s] ∧ (checkCmd c = 0 ∧ s.length ≤ 100000) ∧ K (.tup [.str (oneC c s).1, .bool (oneC c s).2])
noncomputable def one_lib : List (Nat × Spec) := [(38, containsS_S), (39, replaceS_S), (32, splitS_S)]
noncomputable def one_fns : List (Nat × FnI) := []
noncomputable def one_prims : List (Nat × PSpec) := [(40, revB_P)]
theorem one_E : EnvOK ⟨Tryd.prog, tys, one_lib, one_fns, one_prims, []⟩ := env_ok mixed0 tys0 (.cons containsS_ca containsS_ok (.cons replaceS_ca replaceS_ok (.cons splitS_ca splitS_ok .nil))) .nil (.cons revB_prim .nil) rfl
set_option maxHeartbeats 4000000 in
theorem one_ok : Pure Tryd.prog 30 one_S := by
  refine pure_by one_E 6 (fi := {fn := Tryd.f30, hooks := [], draws := [(7, [0, 0, 2, 6, 0, 16, 48, 127, 255, 511])]}) ⟨Tryd.func30, by kernel_rfl, by kernel_rfl⟩ ?_
  rintro _ K ⟨c, s, rfl, ⟨hc, hs⟩, hK⟩
  replace hK : ∀ r, r = .tup [.str (oneC c s).1, .bool (oneC c s).2] → K r := fun r h => h ▸ hK
  have hsw := @splitK_sz [32] (Lib.count s [32]) s
  have hsn : 0 < (Lib.split s [32]).length := List.length_pos_iff.2 (split_ne s [32])
  have hcn : c.kind = 4 → 1 ≤ c.n := fun h => by
    unfold checkCmd useN at hc
    grind
  have hcw := @word2 c hc
  have hsl : (Lib.split s [32]).length ≤ 1000000 := by
    rw [split_len _ _ (by decide), Lib.count_one]
    have := List.count_le_length (a := (32 : UInt8)) (l := s)
    omega
  have hone : ∀ r : Bs × Bool, oneC c s = r → K (.tup [.str r.1, .bool r.2]) := fun r h => hK _ (by rw [h])
  unfold oneC at hone
  repeat' (first | exact True.intro | refine ⟨_, LeL.refl _, ?_⟩ | refine ⟨_, _, _, LeL.refl _, ?_⟩ | (refine fun (b : Bool) hb => ?_; cases b <;> (first | exact absurd hb (by decide) | exact Bool.noConfusion (show true = false from hb) | exact Bool.noConfusion (show false = true from hb) | skip)) | (refine fun (hl : _ ≤ MAXL) => ?_) | refine And.intro (a := I64 _) ?_ ?_ | refine And.intro (a := _ ≤ 140737488355328) ?_ ?_ | refine ⟨_, ⟨rfl, rfl⟩, ?_⟩ | refine ⟨_, And.intro (a := I64 _) ?_ ⟨rfl, rfl⟩, ?_⟩ | refine ⟨_, _, ⟨rfl, rfl⟩, ?_⟩ | refine ⟨_, (fun _ => ⟨rfl, rfl⟩), ?_⟩ | refine And.intro (a := chkPend _ _ _ _ _ _) ?_ ?_ | refine And.intro (a := chkPast _ _ _ _ _ _ _ _) ?_ ?_ | refine ⟨⟨rfl, rfl⟩, ?_⟩ | refine And.intro (And.intro rfl rfl) ?_ | refine ⟨True.intro, ?_⟩ | refine ⟨_, ⟨_, rfl, ?_, rfl, rfl, rfl⟩, ?_⟩ | refine ⟨_, rfl, ?_, rfl, ?_⟩ | refine ⟨_, (fun _ => rfl), rfl, ?_⟩ | refine ⟨(fun _ => rfl), ?_⟩ | refine ⟨rfl, ?_⟩ | refine Opt.b ?_ | fail)
  · -- turned
    omega
  · refine ⟨s, rfl, rfl, by omega, ?_⟩
    repeat' (first | exact True.intro | refine ⟨_, LeL.refl _, ?_⟩ | refine ⟨_, _, _, LeL.refl _, ?_⟩ | (refine fun (b : Bool) hb => ?_; cases b <;> (first | exact absurd hb (by decide) | exact Bool.noConfusion (show true = false from hb) | exact Bool.noConfusion (show false = true from hb) | skip)) | (refine fun (hl : _ ≤ MAXL) => ?_) | refine And.intro (a := I64 _) ?_ ?_ | refine And.intro (a := _ ≤ 140737488355328) ?_ ?_ | refine ⟨_, ⟨rfl, rfl⟩, ?_⟩ | refine ⟨_, And.intro (a := I64 _) ?_ ⟨rfl, rfl⟩, ?_⟩ | refine ⟨_, _, ⟨rfl, rfl⟩, ?_⟩ | refine ⟨_, (fun _ => ⟨rfl, rfl⟩), ?_⟩ | refine And.intro (a := chkPend _ _ _ _ _ _) ?_ ?_ | refine And.intro (a := chkPast _ _ _ _ _ _ _ _) ?_ ?_ | refine ⟨⟨rfl, rfl⟩, ?_⟩ | refine And.intro (And.intro rfl rfl) ?_ | refine ⟨True.intro, ?_⟩ | refine ⟨_, ⟨_, rfl, ?_, rfl, rfl, rfl⟩, ?_⟩ | refine ⟨_, rfl, ?_, rfl, ?_⟩ | refine ⟨_, (fun _ => rfl), rfl, ?_⟩ | refine ⟨(fun _ => rfl), ?_⟩ | refine ⟨rfl, ?_⟩ | refine Opt.a ?_ | fail)
    refine ⟨s.reverse, rfl, rfl, ?_⟩
    repeat' (first | exact True.intro | refine ⟨_, LeL.refl _, ?_⟩ | refine ⟨_, _, _, LeL.refl _, ?_⟩ | (refine fun (b : Bool) hb => ?_; cases b <;> (first | exact absurd hb (by decide) | exact Bool.noConfusion (show true = false from hb) | exact Bool.noConfusion (show false = true from hb) | skip)) | (refine fun (hl : _ ≤ MAXL) => ?_) | refine And.intro (a := I64 _) ?_ ?_ | refine And.intro (a := _ ≤ 140737488355328) ?_ ?_ | refine ⟨_, ⟨rfl, rfl⟩, ?_⟩ | refine ⟨_, And.intro (a := I64 _) ?_ ⟨rfl, rfl⟩, ?_⟩ | refine ⟨_, _, ⟨rfl, rfl⟩, ?_⟩ | refine ⟨_, (fun _ => ⟨rfl, rfl⟩), ?_⟩ | refine And.intro (a := chkPend _ _ _ _ _ _) ?_ ?_ | refine And.intro (a := chkPast _ _ _ _ _ _ _ _) ?_ ?_ | refine ⟨⟨rfl, rfl⟩, ?_⟩ | refine And.intro (And.intro rfl rfl) ?_ | refine ⟨True.intro, ?_⟩ | refine ⟨_, ⟨_, rfl, ?_, rfl, rfl, rfl⟩, ?_⟩ | refine ⟨_, rfl, ?_, rfl, ?_⟩ | refine ⟨_, (fun _ => rfl), rfl, ?_⟩ | refine ⟨(fun _ => rfl), ?_⟩ | refine ⟨rfl, ?_⟩ | refine Opt.a ?_ | fail)
    have h1 : ¬ c.kind = 1 := of_decide_eq_false (by assumption)
    have h2 : ¬ c.kind = 2 := of_decide_eq_false (by assumption)
    have h3 : ¬ c.kind = 3 := of_decide_eq_false (by assumption)
    have h4 : ¬ c.kind = 4 := of_decide_eq_false (by assumption)
    rw [if_neg h1, if_neg h2, if_neg h3, if_neg h4] at hone
    exact hone _ rfl
  · -- a field
    have h4 : c.kind = 4 := of_decide_eq_true (by assumption)
    have := hcn h4
    refine ⟨s, [32], rfl, ⟨by omega, by decide⟩, ?_⟩
    rw [if_neg (by omega), if_neg (by omega), if_neg (by omega), if_pos h4] at hone
    repeat' (first | exact True.intro | refine ⟨_, LeL.refl _, ?_⟩ | refine ⟨_, _, _, LeL.refl _, ?_⟩ | (refine fun (b : Bool) hb => ?_; cases b <;> (first | exact absurd hb (by decide) | exact Bool.noConfusion (show true = false from hb) | exact Bool.noConfusion (show false = true from hb) | skip)) | (refine fun (hl : _ ≤ MAXL) => ?_) | refine And.intro (a := I64 _) ?_ ?_ | refine And.intro (a := _ ≤ 140737488355328) ?_ ?_ | refine ⟨_, ⟨rfl, rfl⟩, ?_⟩ | refine ⟨_, And.intro (a := I64 _) ?_ ⟨rfl, rfl⟩, ?_⟩ | refine ⟨_, _, ⟨rfl, rfl⟩, ?_⟩ | refine ⟨_, (fun _ => ⟨rfl, rfl⟩), ?_⟩ | refine And.intro (a := chkPend _ _ _ _ _ _) ?_ ?_ | refine And.intro (a := chkPast _ _ _ _ _ _ _ _) ?_ ?_ | refine ⟨⟨rfl, rfl⟩, ?_⟩ | refine And.intro (And.intro rfl rfl) ?_ | refine ⟨True.intro, ?_⟩ | refine ⟨_, ⟨_, rfl, ?_, rfl, rfl, rfl⟩, ?_⟩ | refine ⟨_, rfl, ?_, rfl, ?_⟩ | refine ⟨_, (fun _ => rfl), rfl, ?_⟩ | refine ⟨(fun _ => rfl), ?_⟩ | refine ⟨rfl, ?_⟩ | refine Opt.a ?_ | fail)
    · have hle : ¬ ((Lib.split s [32]).length : Int) < c.n := of_decide_eq_false (by assumption)
      (first | omega | (unfold I64; omega) | (simp only [List.length_append, List.length_map, List.length_cons, List.length_nil, Nat.mul_one, Int.ofNat_eq_natCast] at *; omega) | (dsimp only at *; omega) | (unfold I64; dsimp only at *; omega) | (unfold I64; grind) | grind)
    · have hle : ¬ ((Lib.split s [32]).length : Int) < c.n := of_decide_eq_false (by assumption)
      have hlt : (c.n - 1).toNat < (Lib.split s [32]).length := by omega
      refine ⟨(c.n - 1).toNat, by omega, hlt, rfl, ?_⟩
      repeat' (first | exact True.intro | refine ⟨_, LeL.refl _, ?_⟩ | refine ⟨_, _, _, LeL.refl _, ?_⟩ | (refine fun (b : Bool) hb => ?_; cases b <;> (first | exact absurd hb (by decide) | exact Bool.noConfusion (show true = false from hb) | exact Bool.noConfusion (show false = true from hb) | skip)) | (refine fun (hl : _ ≤ MAXL) => ?_) | refine And.intro (a := I64 _) ?_ ?_ | refine And.intro (a := _ ≤ 140737488355328) ?_ ?_ | refine ⟨_, ⟨rfl, rfl⟩, ?_⟩ | refine ⟨_, And.intro (a := I64 _) ?_ ⟨rfl, rfl⟩, ?_⟩ | refine ⟨_, _, ⟨rfl, rfl⟩, ?_⟩ | refine ⟨_, (fun _ => ⟨rfl, rfl⟩), ?_⟩ | refine And.intro (a := chkPend _ _ _ _ _ _) ?_ ?_ | refine And.intro (a := chkPast _ _ _ _ _ _ _ _) ?_ ?_ | refine ⟨⟨rfl, rfl⟩, ?_⟩ | refine And.intro (And.intro rfl rfl) ?_ | refine ⟨True.intro, ?_⟩ | refine ⟨_, ⟨_, rfl, ?_, rfl, rfl, rfl⟩, ?_⟩ | refine ⟨_, rfl, ?_, rfl, ?_⟩ | refine ⟨_, (fun _ => rfl), rfl, ?_⟩ | refine ⟨(fun _ => rfl), ?_⟩ | refine ⟨rfl, ?_⟩ | refine Opt.a ?_ | fail)
      rw [if_neg hle] at hone
      have e : (Lib.split s [32]).getD (c.n - 1).toNat [] = (Lib.split s [32])[(c.n - 1).toNat] := by rw [List.getD_eq_getElem?_getD, List.getElem?_eq_getElem hlt]; rfl
      rw [e] at hone
      exact hone _ rfl
    · have hle : ((Lib.split s [32]).length : Int) < c.n := of_decide_eq_true (by assumption)
      rw [if_pos hle] at hone
      exact hone _ rfl
  · -- a byte for another
    have h3 : c.kind = 3 := of_decide_eq_true (by assumption)
    obtain ⟨x, y, hw⟩ := hcw h3
    rw [if_neg (by omega), if_neg (by omega), if_pos h3] at hone
    obtain ⟨ck, cw, cn⟩ := c
    dsimp only at hw
    subst hw
    refine ⟨_, ⟨0, 1, rfl, rfl, by decide, by show 1 ≤ 2; decide, rfl, rfl⟩, ?_⟩
    repeat' (first | exact True.intro | refine ⟨_, LeL.refl _, ?_⟩ | refine ⟨_, _, _, LeL.refl _, ?_⟩ | (refine fun (b : Bool) hb => ?_; cases b <;> (first | exact absurd hb (by decide) | exact Bool.noConfusion (show true = false from hb) | exact Bool.noConfusion (show false = true from hb) | skip)) | (refine fun (hl : _ ≤ MAXL) => ?_) | refine And.intro (a := I64 _) ?_ ?_ | refine And.intro (a := _ ≤ 140737488355328) ?_ ?_ | refine ⟨_, ⟨rfl, rfl⟩, ?_⟩ | refine ⟨_, And.intro (a := I64 _) ?_ ⟨rfl, rfl⟩, ?_⟩ | refine ⟨_, _, ⟨rfl, rfl⟩, ?_⟩ | refine ⟨_, (fun _ => ⟨rfl, rfl⟩), ?_⟩ | refine And.intro (a := chkPend _ _ _ _ _ _) ?_ ?_ | refine And.intro (a := chkPast _ _ _ _ _ _ _ _) ?_ ?_ | refine ⟨⟨rfl, rfl⟩, ?_⟩ | refine And.intro (And.intro rfl rfl) ?_ | refine ⟨True.intro, ?_⟩ | refine ⟨_, ⟨_, rfl, ?_, rfl, rfl, rfl⟩, ?_⟩ | refine ⟨_, rfl, ?_, rfl, ?_⟩ | refine ⟨_, (fun _ => rfl), rfl, ?_⟩ | refine ⟨(fun _ => rfl), ?_⟩ | refine ⟨rfl, ?_⟩ | refine Opt.a ?_ | fail)
    conv => whnf
    refine ⟨_, ⟨1, 2, rfl, rfl, by decide, by show 2 ≤ 2; decide, rfl, rfl⟩, ?_⟩
    repeat' (first | exact True.intro | refine ⟨_, LeL.refl _, ?_⟩ | refine ⟨_, _, _, LeL.refl _, ?_⟩ | (refine fun (b : Bool) hb => ?_; cases b <;> (first | exact absurd hb (by decide) | exact Bool.noConfusion (show true = false from hb) | exact Bool.noConfusion (show false = true from hb) | skip)) | (refine fun (hl : _ ≤ MAXL) => ?_) | refine And.intro (a := I64 _) ?_ ?_ | refine And.intro (a := _ ≤ 140737488355328) ?_ ?_ | refine ⟨_, ⟨rfl, rfl⟩, ?_⟩ | refine ⟨_, And.intro (a := I64 _) ?_ ⟨rfl, rfl⟩, ?_⟩ | refine ⟨_, _, ⟨rfl, rfl⟩, ?_⟩ | refine ⟨_, (fun _ => ⟨rfl, rfl⟩), ?_⟩ | refine And.intro (a := chkPend _ _ _ _ _ _) ?_ ?_ | refine And.intro (a := chkPast _ _ _ _ _ _ _ _) ?_ ?_ | refine ⟨⟨rfl, rfl⟩, ?_⟩ | refine And.intro (And.intro rfl rfl) ?_ | refine ⟨True.intro, ?_⟩ | refine ⟨_, ⟨_, rfl, ?_, rfl, rfl, rfl⟩, ?_⟩ | refine ⟨_, rfl, ?_, rfl, ?_⟩ | refine ⟨_, (fun _ => rfl), rfl, ?_⟩ | refine ⟨(fun _ => rfl), ?_⟩ | refine ⟨rfl, ?_⟩ | refine Opt.a ?_ | fail)
    have hr := replace_one x y s
    have hl : (Lib.replaceAll s [x] [y]).length = s.length := by rw [hr]; simp
    have hcs : Lib.count s [x] ≤ s.length := by rw [Lib.count_one]; exact List.count_le_length
    apply Exists.intro
    apply And.intro
    · refine ⟨s, [x], [y], rfl, ⟨by omega, by show 1 ≤ 1; decide, by show s.length + Lib.count s [x] * 1 ≤ _; omega, by rw [hl]; unfold MAXL; omega⟩, ?_⟩
      exact ⟨rfl, rfl⟩
    repeat' (first | exact True.intro | refine ⟨_, LeL.refl _, ?_⟩ | refine ⟨_, _, _, LeL.refl _, ?_⟩ | (refine fun (b : Bool) hb => ?_; cases b <;> (first | exact absurd hb (by decide) | exact Bool.noConfusion (show true = false from hb) | exact Bool.noConfusion (show false = true from hb) | skip)) | (refine fun (hl : _ ≤ MAXL) => ?_) | refine And.intro (a := I64 _) ?_ ?_ | refine And.intro (a := _ ≤ 140737488355328) ?_ ?_ | refine ⟨_, ⟨rfl, rfl⟩, ?_⟩ | refine ⟨_, And.intro (a := I64 _) ?_ ⟨rfl, rfl⟩, ?_⟩ | refine ⟨_, _, ⟨rfl, rfl⟩, ?_⟩ | refine ⟨_, (fun _ => ⟨rfl, rfl⟩), ?_⟩ | refine And.intro (a := chkPend _ _ _ _ _ _) ?_ ?_ | refine And.intro (a := chkPast _ _ _ _ _ _ _ _) ?_ ?_ | refine ⟨⟨rfl, rfl⟩, ?_⟩ | refine And.intro (And.intro rfl rfl) ?_ | refine ⟨True.intro, ?_⟩ | refine ⟨_, ⟨_, rfl, ?_, rfl, rfl, rfl⟩, ?_⟩ | refine ⟨_, rfl, ?_, rfl, ?_⟩ | refine ⟨_, (fun _ => rfl), rfl, ?_⟩ | refine ⟨(fun _ => rfl), ?_⟩ | refine ⟨rfl, ?_⟩ | refine Opt.a ?_ | fail)
    exact hone _ rfl
  · have h : c.kind = 2 := of_decide_eq_true (by assumption)
    refine ⟨s, c.word, rfl, by omega, ?_⟩
    repeat' (first | exact True.intro | refine ⟨_, LeL.refl _, ?_⟩ | refine ⟨_, _, _, LeL.refl _, ?_⟩ | (refine fun (b : Bool) hb => ?_; cases b <;> (first | exact absurd hb (by decide) | exact Bool.noConfusion (show true = false from hb) | exact Bool.noConfusion (show false = true from hb) | skip)) | (refine fun (hl : _ ≤ MAXL) => ?_) | refine And.intro (a := I64 _) ?_ ?_ | refine And.intro (a := _ ≤ 140737488355328) ?_ ?_ | refine ⟨_, ⟨rfl, rfl⟩, ?_⟩ | refine ⟨_, And.intro (a := I64 _) ?_ ⟨rfl, rfl⟩, ?_⟩ | refine ⟨_, _, ⟨rfl, rfl⟩, ?_⟩ | refine ⟨_, (fun _ => ⟨rfl, rfl⟩), ?_⟩ | refine And.intro (a := chkPend _ _ _ _ _ _) ?_ ?_ | refine And.intro (a := chkPast _ _ _ _ _ _ _ _) ?_ ?_ | refine ⟨⟨rfl, rfl⟩, ?_⟩ | refine And.intro (And.intro rfl rfl) ?_ | refine ⟨True.intro, ?_⟩ | refine ⟨_, ⟨_, rfl, ?_, rfl, rfl, rfl⟩, ?_⟩ | refine ⟨_, rfl, ?_, rfl, ?_⟩ | refine ⟨_, (fun _ => rfl), rfl, ?_⟩ | refine ⟨(fun _ => rfl), ?_⟩ | refine ⟨rfl, ?_⟩ | refine Opt.a ?_ | fail)
    rw [if_neg (by omega), if_pos h] at hone
    exact hone _ rfl
  · have h : c.kind = 1 := of_decide_eq_true (by assumption)
    refine ⟨s, c.word, rfl, by omega, ?_⟩
    repeat' (first | exact True.intro | refine ⟨_, LeL.refl _, ?_⟩ | refine ⟨_, _, _, LeL.refl _, ?_⟩ | (refine fun (b : Bool) hb => ?_; cases b <;> (first | exact absurd hb (by decide) | exact Bool.noConfusion (show true = false from hb) | exact Bool.noConfusion (show false = true from hb) | skip)) | (refine fun (hl : _ ≤ MAXL) => ?_) | refine And.intro (a := I64 _) ?_ ?_ | refine And.intro (a := _ ≤ 140737488355328) ?_ ?_ | refine ⟨_, ⟨rfl, rfl⟩, ?_⟩ | refine ⟨_, And.intro (a := I64 _) ?_ ⟨rfl, rfl⟩, ?_⟩ | refine ⟨_, _, ⟨rfl, rfl⟩, ?_⟩ | refine ⟨_, (fun _ => ⟨rfl, rfl⟩), ?_⟩ | refine And.intro (a := chkPend _ _ _ _ _ _) ?_ ?_ | refine And.intro (a := chkPast _ _ _ _ _ _ _ _) ?_ ?_ | refine ⟨⟨rfl, rfl⟩, ?_⟩ | refine And.intro (And.intro rfl rfl) ?_ | refine ⟨True.intro, ?_⟩ | refine ⟨_, ⟨_, rfl, ?_, rfl, rfl, rfl⟩, ?_⟩ | refine ⟨_, rfl, ?_, rfl, ?_⟩ | refine ⟨_, (fun _ => rfl), rfl, ?_⟩ | refine ⟨(fun _ => rfl), ?_⟩ | refine ⟨rfl, ?_⟩ | refine Opt.a ?_ | fail)
    rw [if_pos h] at hone
    exact hone _ rfl
end Gv
namespace Gv
variable [Glob] [Laid] [Nums]
theorem bel_more (w : World) (k : Nat) (os : Array Obj) : Bel [] w (Go.Sort.grow (w.drewN k) os) :=
  ⟨rfl, rfl, rfl, by rw [Go.Sort.size_grow]; exact Nat.le_add_right _ _, fun i hi _ => Go.Sort.heap_grow_old (w.drewN k) os hi⟩
theorem itoa_ca : callable Tryd.prog 29 = true := by kernel_rfl
def itoa_S : Spec := fun args K => ∃ (n : Int), args = [.int .i64 n] ∧ I64 n ∧ K (.str (Lib.itoa n))
set_option maxHeartbeats 4000000 in
theorem itoa_ok : Pure Tryd.prog 29 itoa_S := by
  intro w m args us K hm hg hv hT
  obtain ⟨n, rfl, h1, hK⟩ := hT
  obtain ⟨a, rfl, ha⟩ := args1 hv.1 hv.2
  cases ha
  refine (Tryd.strconv_Itoa n h1.1 h1.2 w (Nums.pow10 w (fun b o e => hm b o (hg b o e)))).mono fun e w' ⟨he, k, os, hw⟩ => ?_
  subst hw
  have := itoa_len n h1
  exact ⟨_, _, he, bel_more w k os, hK, .str (by unfold MAXL; omega)⟩
end Gv
namespace Gv
variable [Glob] [Laid]
theorem sortS_ca : callable Tryd.prog 27 = true := by kernel_rfl
def sortS_P : PSpec := fun args rows K => (∃ (l : List Bs), args = [.own 0] ∧ rows = [.row 1 (l.map strV)] ∧ l.length < 4611686018427387904 ∧ K (.tup []) [.row 1 ((sortB l).map strV)]) ∨ (args = [.nil] ∧ rows = [] ∧ K (.tup []) [])
set_option maxHeartbeats 4000000 in
theorem sortS_prim : PrimOK Tryd.prog 27 sortS_P := by
  intro w0 m0 args rows k R m q w us C hv hT
  rcases hT with ⟨l, rfl, rfl, hl, hK⟩ | ⟨rfl, rfl, hK⟩
  rotate_left
  · obtain ⟨u, rfl, hu⟩ := vrl_one hv
    refine ⟨sortS_ca, ?_⟩
    cases hu
    refine (Tryd.slices_Sort_string_none none 0 w).mono fun e w' ⟨he, hw⟩ => ?_
    subst hw
    exact ⟨_, he, _, _, _, _, _, hK, C, Mem.Le.refl m, Loc.Le.refl q, .tup (us := []) rfl fun i v u h => by simp at h⟩
  obtain ⟨u, rfl, hu⟩ := vrl_one hv
  refine ⟨sortS_ca, ?_⟩
  rcases own_strs C hu with ⟨rfl, rfl⟩ | ⟨b, cap, arr, T, fz, rfl, h1, h2, h3, h4, h5, h6, h7, h8⟩
  · refine (Tryd.slices_Sort_string_none none 0 w).mono fun e w' ⟨he, hw⟩ => ?_
    subst hw
    have e : sortB ([] : List Bs) = [] := by simp [sortB]
    rw [e] at hK
    exact ⟨_, he, _, _, _, _, _, hK, C, Mem.Le.refl m, Loc.Le.refl q, .tup (us := []) rfl fun i v u h => by simp at h⟩
  · have hblk := C.sit.lt h4
    refine (Tryd.slices_Sort_string b 0 cap l w h7 hblk hl).mono fun e w' ⟨he, n, os, hw⟩ => ?_
    obtain ⟨g1, g2⟩ := sorted_world (C.sit.own _ _ h4).2.1 hw
    have C2 := C.strs_put (l' := sortB l) h3 h4 h5 h6 h2 h1 (sortB_len l) (fun x hx => h8 x ((sortB_perm l).mem_iff.1 hx)) g1 g2
    exact ⟨_, he, _, _, _, _, _, hK, C2, Mem.Le.refl m, Loc.Le.refl q, .tup (us := []) rfl fun i v u h => by simp at h⟩
end Gv
namespace Gv
variable [Glob] [Laid]
theorem compactS_ca : callable Tryd.prog 28 = true := by kernel_rfl
def compactS_P : PSpec := fun args rows K => (∃ (l : List Bs), args = [.own 0] ∧ rows = [.row 1 (l.map strV)] ∧ K (.own 1) [.dead, .row 1 ((onceB l).map strV)]) ∨ (args = [.nil] ∧ rows = [] ∧ K .nil [])
set_option maxHeartbeats 4000000 in
theorem compactS_prim : PrimOK Tryd.prog 28 compactS_P := by
  intro w0 m0 args rows k R m q w us C hv hT
  rcases hT with ⟨l, rfl, rfl, hK⟩ | ⟨rfl, rfl, hK⟩
  rotate_left
  · obtain ⟨u, rfl, hu⟩ := vrl_one hv
    refine ⟨compactS_ca, ?_⟩
    cases hu
    refine (Tryd.slices_Compact_string_empty none 0 w).mono fun e w' ⟨he, hw⟩ => ?_
    subst hw
    exact ⟨_, he, _, _, _, _, _, hK, C, Mem.Le.refl m, Loc.Le.refl q, .nil⟩
  obtain ⟨u, rfl, hu⟩ := vrl_one hv
  refine ⟨compactS_ca, ?_⟩
  rcases own_strs C hu with ⟨rfl, rfl⟩ | ⟨b, cap, arr, T, fz, rfl, h1, h2, h3, h4, h5, h6, h7, h8⟩
  · refine (Tryd.slices_Compact_string_empty none 0 w).mono fun e w' ⟨he, hw⟩ => ?_
    subst hw
    have C1 := C.kill (r := 0) rfl
    have C2 := C1.row0 1
    refine ⟨_, he, _, _, _, _, _, hK, C2, Mem.Le.refl m, C1.le_add _, ?_⟩
    exact VR.own (add_self q 1 (none, 0, 0, 1))
  · have hw0 := (C.sit.own _ _ h4).2.1
    refine (Tryd.slices_Compact_string b 0 cap l w h7 (by unfold MAXL at h2; omega) h1).mono fun e w' ⟨he, n, hw⟩ => ?_
    obtain ⟨g1, g2⟩ := sorted_world (w' := w') (n := n) (d := (Lib.compact l ++ List.replicate (l.length - (Lib.compact l).length) ([] : Bs)).toArray) (os := #[]) hw0 (by rw [hw, Go.Sort.grow_empty])
    have S' := C.sit.write h4 g1 g2
    have hlen : (Lib.compact l ++ List.replicate (l.length - (Lib.compact l).length) ([] : Bs)).length ≤ cap := by
      have := onceB_len l
      unfold onceB at this
      simp
      omega
    have he' : ElsR m 1 ((onceB l).map strV) (Go.Sort.putCells Go.Proofs.encStr 0 (Lib.compact l ++ List.replicate (l.length - (Lib.compact l).length) ([] : Bs)).toArray arr) := fun i x hi => by
      have hx := els_put (m := m) (l := l) (l' := Lib.compact l ++ List.replicate (l.length - (Lib.compact l).length) ([] : Bs)) h5 hlen (fun x hx => by
        rcases List.mem_append.1 hx with hx | hx
        · exact h8 x (onceB_sub l x hx)
        · rw [(List.mem_replicate.1 hx).2]; exact Nat.zero_le _)
      refine hx i x ?_
      rw [List.map_append, List.getElem?_append_left (show i < ((Lib.compact l).map strV).length from (List.getElem?_eq_some_iff.1 hi).1)]
      exact hi
    have e0 : ([Row.row 1 (l.map strV)].set 0 Row.dead ++ [.row 1 ((onceB l).map strV)]) = [.dead, .row 1 ((onceB l).map strV)] := rfl
    have C2 := C.move (r := 0) (y := .row 1 ((onceB l).map strV)) (n' := (onceB l).length) (c' := cap) (k' := 1) rfl rfl h3 S' ⟨some b, cap, by simp [add_self], by simp; have := onceB_len l; omega, h2, (fun h => by cases h), fun b' e => by
      cases e
      exact ⟨_, T, fz, by simp [Mem.put], by rw [putCells_size]; exact h5, he', by rw [putCells_size]; exact h6⟩⟩
    refine ⟨_, he, _, _, _, _, _, hK, C2, Mem.Le.refl m, C.le_add _, ?_⟩
    exact VR.own (add_self q 1 (some b, (onceB l).length, cap, 1))
end Gv
namespace Gv
variable [Glob] [Laid] [Nums]
theorem linesC_ca : callable Tryd.prog 18 = true := by kernel_rfl
def linesC_S : Spec := fun args K => ∃ (c : Cmd) (l : List Bs), args = [cmdV c, .sl strV l] ∧ (checkCmd c = 0 ∧ l.length ≤ 100000 ∧ ∀ s ∈ l, s.length ≤ 100000) ∧ K (.sl strV (linesC c l))
noncomputable def linesC_lib : List (Nat × Spec) := [(30, one_S), (29, itoa_S)]
noncomputable def linesC_fns : List (Nat × FnI) := [(26, {fn := Tryd.f26, hooks := [], draws := []})]
noncomputable def linesC_prims : List (Nat × PSpec) := [(27, sortS_P), (28, compactS_P)]
theorem linesC_E : EnvOK ⟨Tryd.prog, tys, linesC_lib, linesC_fns, linesC_prims, []⟩ := env_ok mixed0 tys0 (.cons one_ca one_ok (.cons itoa_ca itoa_ok .nil)) (.cons (by kernel_rfl) ⟨Tryd.func26, by kernel_rfl, by kernel_rfl⟩ .nil) (.cons sortS_prim (.cons compactS_prim .nil)) rfl
set_option maxHeartbeats 4000000 in
theorem linesC_ok : Pure Tryd.prog 18 linesC_S := by
  refine pure_by linesC_E 6 (fi := {fn := Tryd.f18, hooks := [], draws := []}) ⟨Tryd.func18, by kernel_rfl, by kernel_rfl⟩ ?_
  rintro _ K ⟨c, l, rfl, ⟨hc, hl, hs⟩, hK⟩
  replace hK : ∀ r, r = .sl strV (linesC c l) → K r := fun r h => h ▸ hK
  have hcn : c.kind = 9 ∨ c.kind = 10 → 1 ≤ c.n ∧ c.n ≤ 1000 := fun h => by
    unfold checkCmd useN at hc
    grind
  have hone : ∀ r : List Bs, linesC c l = r → K (.sl strV r) := fun r h => hK _ (by rw [h])
  unfold linesC at hone
  repeat' (first | exact True.intro | refine ⟨_, LeL.refl _, ?_⟩ | refine ⟨_, _, _, LeL.refl _, ?_⟩ | (refine fun (b : Bool) hb => ?_; cases b <;> (first | exact absurd hb (by decide) | exact Bool.noConfusion (show true = false from hb) | exact Bool.noConfusion (show false = true from hb) | skip)) | (refine fun (hl : _ ≤ MAXL) => ?_) | refine And.intro (a := I64 _) ?_ ?_ | refine And.intro (a := _ ≤ 140737488355328) ?_ ?_ | refine ⟨_, ⟨rfl, rfl⟩, ?_⟩ | refine ⟨_, And.intro (a := I64 _) ?_ ⟨rfl, rfl⟩, ?_⟩ | refine ⟨_, _, ⟨rfl, rfl⟩, ?_⟩ | refine ⟨_, (fun _ => ⟨rfl, rfl⟩), ?_⟩ | refine And.intro (a := chkPend _ _ _ _ _ _) ?_ ?_ | refine And.intro (a := chkPast _ _ _ _ _ _ _ _) ?_ ?_ | refine ⟨⟨rfl, rfl⟩, ?_⟩ | refine And.intro (And.intro rfl rfl) ?_ | refine ⟨True.intro, ?_⟩ | refine ⟨_, ⟨_, rfl, ?_, rfl, rfl, rfl⟩, ?_⟩ | refine ⟨_, rfl, ?_, rfl, ?_⟩ | refine ⟨_, (fun _ => rfl), rfl, ?_⟩ | refine ⟨(fun _ => rfl), ?_⟩ | refine ⟨rfl, ?_⟩ | refine Opt.a ?_ | fail)
  · -- one line at a time
    have h6 : ¬ c.kind = 6 := of_decide_eq_false (by assumption)
    have h7 : ¬ c.kind = 7 := of_decide_eq_false (by assumption)
    have h8 : ¬ c.kind = 8 := of_decide_eq_false (by assumption)
    have h9 : ¬ c.kind = 9 := of_decide_eq_false (by assumption)
    have h10 : ¬ c.kind = 10 := of_decide_eq_false (by assumption)
    rw [if_neg h6, if_neg h7, if_neg h8, if_neg h9, if_neg h10] at hone
    conv => whnf
    refine loop_live [2, 51, 52] (σ := Nat × List Bs) (fun s => [(53, .int .i64 s.1), (5, .own 1)]) (fun s => [.box (cmdV c).cells, .row 1 (s.2.map strV)]) (fun s => s.2 = (l.take s.1).filterMap (outC c) ∧ s.1 ≤ l.length) (fun s => l.length - s.1) (0, []) ?_
    conv => whnf
    refine ⟨(by (refine wk_auto ?_; refine Sel4.mk rfl rfl ?_ ?_ <;> (repeat' (first | exact True.intro | exact rfl | exact Or.inl rfl | exact Or.inr rfl | refine And.intro ?_ ?_ | fail)))), ⟨by simp, Nat.zero_le _⟩, fun s hs => ?_⟩
    obtain ⟨i, out⟩ := s
    obtain ⟨ho, hi⟩ := hs
    dsimp only at ho hi
    have hol : out.length ≤ 100000 := by
      rw [ho]
      have := List.length_filterMap_le (outC c) (l.take i)
      simp only [List.length_take] at this
      omega
    repeat' (first | exact True.intro | refine ⟨_, LeL.refl _, ?_⟩ | refine ⟨_, _, _, LeL.refl _, ?_⟩ | (refine fun (b : Bool) hb => ?_; cases b <;> (first | exact absurd hb (by decide) | exact Bool.noConfusion (show true = false from hb) | exact Bool.noConfusion (show false = true from hb) | skip)) | (refine fun (hl : _ ≤ MAXL) => ?_) | refine And.intro (a := I64 _) ?_ ?_ | refine And.intro (a := _ ≤ 140737488355328) ?_ ?_ | refine ⟨_, ⟨rfl, rfl⟩, ?_⟩ | refine ⟨_, And.intro (a := I64 _) ?_ ⟨rfl, rfl⟩, ?_⟩ | refine ⟨_, _, ⟨rfl, rfl⟩, ?_⟩ | refine ⟨_, (fun _ => ⟨rfl, rfl⟩), ?_⟩ | refine And.intro (a := chkPend _ _ _ _ _ _) ?_ ?_ | refine And.intro (a := chkPast _ _ _ _ _ _ _ _) ?_ ?_ | refine ⟨⟨rfl, rfl⟩, ?_⟩ | refine And.intro (And.intro rfl rfl) ?_ | refine ⟨True.intro, ?_⟩ | refine ⟨_, ⟨_, rfl, ?_, rfl, rfl, rfl⟩, ?_⟩ | refine ⟨_, rfl, ?_, rfl, ?_⟩ | refine ⟨_, (fun _ => rfl), rfl, ?_⟩ | refine ⟨(fun _ => rfl), ?_⟩ | refine ⟨rfl, ?_⟩ | refine Opt.a ?_ | fail)
    · have h : ¬ (i : Int) < (l.length : Int) := of_decide_eq_false (by assumption)
      have e : i = l.length := by omega
      rw [e, List.take_length] at ho
      conv => whnf
      exact hone _ ho.symm
    all_goals have hlt : i < l.length := by grind
    · exact hlt
    refine ⟨c, l[i], rfl, ⟨hc, hs _ (List.getElem_mem hlt)⟩, ?_⟩
    have hnx : (l.take (i + 1)).filterMap (outC c) = out ++ (match oneC c l[i] with | (t, true) => [t] | (_, false) => []) := by
      rw [List.take_succ_eq_append_getElem hlt, List.filterMap_append, ← ho]
      congr 1
      simp only [List.filterMap_cons, List.filterMap_nil]
      unfold outC
      generalize oneC c l[i] = p
      obtain ⟨t, b⟩ := p
      cases b <;> rfl
    obtain ⟨p, hp⟩ : ∃ p, oneC c l[i] = p := ⟨_, rfl⟩
    rw [hp] at hnx ⊢
    obtain ⟨t, b⟩ := p
    cases b
    · repeat' (first | exact True.intro | refine ⟨_, LeL.refl _, ?_⟩ | refine ⟨_, _, _, LeL.refl _, ?_⟩ | (refine fun (b : Bool) hb => ?_; cases b <;> (first | exact absurd hb (by decide) | exact Bool.noConfusion (show true = false from hb) | exact Bool.noConfusion (show false = true from hb) | skip)) | (refine fun (hl : _ ≤ MAXL) => ?_) | refine And.intro (a := I64 _) ?_ ?_ | refine And.intro (a := _ ≤ 140737488355328) ?_ ?_ | refine ⟨_, ⟨rfl, rfl⟩, ?_⟩ | refine ⟨_, And.intro (a := I64 _) ?_ ⟨rfl, rfl⟩, ?_⟩ | refine ⟨_, _, ⟨rfl, rfl⟩, ?_⟩ | refine ⟨_, (fun _ => ⟨rfl, rfl⟩), ?_⟩ | refine And.intro (a := chkPend _ _ _ _ _ _) ?_ ?_ | refine And.intro (a := chkPast _ _ _ _ _ _ _ _) ?_ ?_ | refine ⟨⟨rfl, rfl⟩, ?_⟩ | refine And.intro (And.intro rfl rfl) ?_ | refine ⟨True.intro, ?_⟩ | refine ⟨_, ⟨_, rfl, ?_, rfl, rfl, rfl⟩, ?_⟩ | refine ⟨_, rfl, ?_, rfl, ?_⟩ | refine ⟨_, (fun _ => rfl), rfl, ?_⟩ | refine ⟨(fun _ => rfl), ?_⟩ | refine ⟨rfl, ?_⟩ | refine Opt.a ?_ | fail)
      · (first | omega | (unfold I64; omega) | (simp only [List.length_append, List.length_map, List.length_cons, List.length_nil, Nat.mul_one, Int.ofNat_eq_natCast] at *; omega) | (dsimp only at *; omega) | (unfold I64; dsimp only at *; omega) | (unfold I64; grind) | grind)
      refine ⟨(i + 1, out), (by (refine wk_auto ?_; refine Sel4.mk rfl rfl ?_ ?_ <;> (repeat' (first | exact True.intro | exact rfl | exact Or.inl rfl | exact Or.inr rfl | refine And.intro ?_ ?_ | fail)))), ⟨?_, hlt⟩, ?_⟩
      · show out = _
        rw [hnx]
        simp
      · show l.length - (i + 1) < l.length - i
        omega
    · repeat' (first | exact True.intro | refine ⟨_, LeL.refl _, ?_⟩ | refine ⟨_, _, _, LeL.refl _, ?_⟩ | (refine fun (b : Bool) hb => ?_; cases b <;> (first | exact absurd hb (by decide) | exact Bool.noConfusion (show true = false from hb) | exact Bool.noConfusion (show false = true from hb) | skip)) | (refine fun (hl : _ ≤ MAXL) => ?_) | refine And.intro (a := I64 _) ?_ ?_ | refine And.intro (a := _ ≤ 140737488355328) ?_ ?_ | refine ⟨_, ⟨rfl, rfl⟩, ?_⟩ | refine ⟨_, And.intro (a := I64 _) ?_ ⟨rfl, rfl⟩, ?_⟩ | refine ⟨_, _, ⟨rfl, rfl⟩, ?_⟩ | refine ⟨_, (fun _ => ⟨rfl, rfl⟩), ?_⟩ | refine And.intro (a := chkPend _ _ _ _ _ _) ?_ ?_ | refine And.intro (a := chkPast _ _ _ _ _ _ _ _) ?_ ?_ | refine ⟨⟨rfl, rfl⟩, ?_⟩ | refine And.intro (And.intro rfl rfl) ?_ | refine ⟨True.intro, ?_⟩ | refine ⟨_, ⟨_, rfl, ?_, rfl, rfl, rfl⟩, ?_⟩ | refine ⟨_, rfl, ?_, rfl, ?_⟩ | refine ⟨_, (fun _ => rfl), rfl, ?_⟩ | refine ⟨(fun _ => rfl), ?_⟩ | refine ⟨rfl, ?_⟩ | refine Opt.a ?_ | fail)
      · show ((out.map strV).length + 1) * 16 ≤ 140737488355328
        rw [List.length_map]
        omega
      · (first | omega | (unfold I64; omega) | (simp only [List.length_append, List.length_map, List.length_cons, List.length_nil, Nat.mul_one, Int.ofNat_eq_natCast] at *; omega) | (dsimp only at *; omega) | (unfold I64; dsimp only at *; omega) | (unfold I64; grind) | grind)
      refine ⟨(i + 1, out ++ [t]), ?_, ⟨?_, hlt⟩, ?_⟩
      rotate_left
      · show out ++ [t] = _
        rw [hnx]
      · show l.length - (i + 1) < l.length - i
        omega
      (refine wk_auto ?_; refine Sel4.mk rfl rfl ?_ ?_ <;> (repeat' (first | exact True.intro | exact rfl | exact Or.inl rfl | exact Or.inr rfl | refine And.intro ?_ ?_ | fail)))
      show Row.row 1 _ = Row.row 1 _
      simp
      rfl
  · obtain ⟨h1, h2⟩ := hcn (.inr (of_decide_eq_true (by assumption)))
    (first | omega | (unfold I64; omega) | (simp only [List.length_append, List.length_map, List.length_cons, List.length_nil, Nat.mul_one, Int.ofNat_eq_natCast] at *; omega) | (dsimp only at *; omega) | (unfold I64; dsimp only at *; omega) | (unfold I64; grind) | grind)
  · obtain ⟨h1, h2⟩ := hcn (.inr (of_decide_eq_true (by assumption)))
    have h6 : ¬ c.kind = 6 := of_decide_eq_false (by assumption)
    have h7 : ¬ c.kind = 7 := of_decide_eq_false (by assumption)
    have h8 : ¬ c.kind = 8 := of_decide_eq_false (by assumption)
    have h9 : ¬ c.kind = 9 := of_decide_eq_false (by assumption)
    have h10 : c.kind = 10 := of_decide_eq_true (by assumption)
    rw [if_neg h6, if_neg h7, if_neg h8, if_neg h9, if_pos h10] at hone
    conv => whnf
    refine ⟨l.length - c.n.toNat, by omega, by omega, ?_⟩
    repeat' (first | exact True.intro | refine ⟨_, LeL.refl _, ?_⟩ | refine ⟨_, _, _, LeL.refl _, ?_⟩ | (refine fun (b : Bool) hb => ?_; cases b <;> (first | exact absurd hb (by decide) | exact Bool.noConfusion (show true = false from hb) | exact Bool.noConfusion (show false = true from hb) | skip)) | (refine fun (hl : _ ≤ MAXL) => ?_) | refine And.intro (a := I64 _) ?_ ?_ | refine And.intro (a := _ ≤ 140737488355328) ?_ ?_ | refine ⟨_, ⟨rfl, rfl⟩, ?_⟩ | refine ⟨_, And.intro (a := I64 _) ?_ ⟨rfl, rfl⟩, ?_⟩ | refine ⟨_, _, ⟨rfl, rfl⟩, ?_⟩ | refine ⟨_, (fun _ => ⟨rfl, rfl⟩), ?_⟩ | refine And.intro (a := chkPend _ _ _ _ _ _) ?_ ?_ | refine And.intro (a := chkPast _ _ _ _ _ _ _ _) ?_ ?_ | refine ⟨⟨rfl, rfl⟩, ?_⟩ | refine And.intro (And.intro rfl rfl) ?_ | refine ⟨True.intro, ?_⟩ | refine ⟨_, ⟨_, rfl, ?_, rfl, rfl, rfl⟩, ?_⟩ | refine ⟨_, rfl, ?_, rfl, ?_⟩ | refine ⟨_, (fun _ => rfl), rfl, ?_⟩ | refine ⟨(fun _ => rfl), ?_⟩ | refine ⟨rfl, ?_⟩ | refine Opt.a ?_ | fail)
    · show (0 + ((l.drop (l.length - c.n.toNat)).map strV).length) * 16 ≤ 140737488355328
      rw [List.length_map, List.length_drop]
      omega
    · exact hone _ rfl
    · have h : true = true → l.drop (l.length - c.n.toNat) = [] := by assumption
      refine ⟨_, strV, hone _ (h rfl)⟩
  · obtain ⟨h1, h2⟩ := hcn (.inl (of_decide_eq_true (by assumption)))
    have h6 : ¬ c.kind = 6 := of_decide_eq_false (by assumption)
    have h7 : ¬ c.kind = 7 := of_decide_eq_false (by assumption)
    have h8 : ¬ c.kind = 8 := of_decide_eq_false (by assumption)
    have h9 : c.kind = 9 := of_decide_eq_true (by assumption)
    rw [if_neg h6, if_neg h7, if_neg h8, if_pos h9] at hone
    conv => whnf
    have ht : l.take (min c.n.toNat l.length) = l.take c.n.toNat := by
      rw [← List.take_take, List.take_length]
    refine ⟨min c.n.toNat l.length, by omega, by omega, ?_⟩
    repeat' (first | exact True.intro | refine ⟨_, LeL.refl _, ?_⟩ | refine ⟨_, _, _, LeL.refl _, ?_⟩ | (refine fun (b : Bool) hb => ?_; cases b <;> (first | exact absurd hb (by decide) | exact Bool.noConfusion (show true = false from hb) | exact Bool.noConfusion (show false = true from hb) | skip)) | (refine fun (hl : _ ≤ MAXL) => ?_) | refine And.intro (a := I64 _) ?_ ?_ | refine And.intro (a := _ ≤ 140737488355328) ?_ ?_ | refine ⟨_, ⟨rfl, rfl⟩, ?_⟩ | refine ⟨_, And.intro (a := I64 _) ?_ ⟨rfl, rfl⟩, ?_⟩ | refine ⟨_, _, ⟨rfl, rfl⟩, ?_⟩ | refine ⟨_, (fun _ => ⟨rfl, rfl⟩), ?_⟩ | refine And.intro (a := chkPend _ _ _ _ _ _) ?_ ?_ | refine And.intro (a := chkPast _ _ _ _ _ _ _ _) ?_ ?_ | refine ⟨⟨rfl, rfl⟩, ?_⟩ | refine And.intro (And.intro rfl rfl) ?_ | refine ⟨True.intro, ?_⟩ | refine ⟨_, ⟨_, rfl, ?_, rfl, rfl, rfl⟩, ?_⟩ | refine ⟨_, rfl, ?_, rfl, ?_⟩ | refine ⟨_, (fun _ => rfl), rfl, ?_⟩ | refine ⟨(fun _ => rfl), ?_⟩ | refine ⟨rfl, ?_⟩ | refine Opt.a ?_ | fail)
    · show (0 + ((l.take (min c.n.toNat l.length)).map strV).length) * 16 ≤ 140737488355328
      rw [List.length_map, List.length_take]
      omega
    · exact hone _ ht.symm
    · have h : true = true → l.take (min c.n.toNat l.length) = [] := by assumption
      refine ⟨_, strV, hone _ (ht.symm.trans (h rfl))⟩
  · have h6 : ¬ c.kind = 6 := of_decide_eq_false (by assumption)
    have h7 : ¬ c.kind = 7 := of_decide_eq_false (by assumption)
    have h8 : c.kind = 8 := of_decide_eq_true (by assumption)
    rw [if_neg h6, if_neg h7, if_pos h8] at hone
    refine ⟨l.length, rfl, ⟨by omega, by omega⟩, ?_⟩
    repeat' (first | exact True.intro | refine ⟨_, LeL.refl _, ?_⟩ | refine ⟨_, _, _, LeL.refl _, ?_⟩ | (refine fun (b : Bool) hb => ?_; cases b <;> (first | exact absurd hb (by decide) | exact Bool.noConfusion (show true = false from hb) | exact Bool.noConfusion (show false = true from hb) | skip)) | (refine fun (hl : _ ≤ MAXL) => ?_) | refine And.intro (a := I64 _) ?_ ?_ | refine And.intro (a := _ ≤ 140737488355328) ?_ ?_ | refine ⟨_, ⟨rfl, rfl⟩, ?_⟩ | refine ⟨_, And.intro (a := I64 _) ?_ ⟨rfl, rfl⟩, ?_⟩ | refine ⟨_, _, ⟨rfl, rfl⟩, ?_⟩ | refine ⟨_, (fun _ => ⟨rfl, rfl⟩), ?_⟩ | refine And.intro (a := chkPend _ _ _ _ _ _) ?_ ?_ | refine And.intro (a := chkPast _ _ _ _ _ _ _ _) ?_ ?_ | refine ⟨⟨rfl, rfl⟩, ?_⟩ | refine And.intro (And.intro rfl rfl) ?_ | refine ⟨True.intro, ?_⟩ | refine ⟨_, ⟨_, rfl, ?_, rfl, rfl, rfl⟩, ?_⟩ | refine ⟨_, rfl, ?_, rfl, ?_⟩ | refine ⟨_, (fun _ => rfl), rfl, ?_⟩ | refine ⟨(fun _ => rfl), ?_⟩ | refine ⟨rfl, ?_⟩ | refine Opt.a ?_ | fail)
    refine ⟨Bs, strV, [Lib.itoa l.length], LeL.refl _, ?_⟩
    exact hone _ rfl
  · show (0 + (l.map strV).length) * 16 ≤ 140737488355328
    rw [List.length_map]
    omega
  · refine .inl ⟨l, rfl, rfl, ?_⟩
    repeat' (first | exact True.intro | refine ⟨_, LeL.refl _, ?_⟩ | refine ⟨_, _, _, LeL.refl _, ?_⟩ | (refine fun (b : Bool) hb => ?_; cases b <;> (first | exact absurd hb (by decide) | exact Bool.noConfusion (show true = false from hb) | exact Bool.noConfusion (show false = true from hb) | skip)) | (refine fun (hl : _ ≤ MAXL) => ?_) | refine And.intro (a := I64 _) ?_ ?_ | refine And.intro (a := _ ≤ 140737488355328) ?_ ?_ | refine ⟨_, ⟨rfl, rfl⟩, ?_⟩ | refine ⟨_, And.intro (a := I64 _) ?_ ⟨rfl, rfl⟩, ?_⟩ | refine ⟨_, _, ⟨rfl, rfl⟩, ?_⟩ | refine ⟨_, (fun _ => ⟨rfl, rfl⟩), ?_⟩ | refine And.intro (a := chkPend _ _ _ _ _ _) ?_ ?_ | refine And.intro (a := chkPast _ _ _ _ _ _ _ _) ?_ ?_ | refine ⟨⟨rfl, rfl⟩, ?_⟩ | refine And.intro (And.intro rfl rfl) ?_ | refine ⟨True.intro, ?_⟩ | refine ⟨_, ⟨_, rfl, ?_, rfl, rfl, rfl⟩, ?_⟩ | refine ⟨_, rfl, ?_, rfl, ?_⟩ | refine ⟨_, (fun _ => rfl), rfl, ?_⟩ | refine ⟨(fun _ => rfl), ?_⟩ | refine ⟨rfl, ?_⟩ | refine Opt.a ?_ | fail)
    have h6 : ¬ c.kind = 6 := of_decide_eq_false (by assumption)
    have h7 : c.kind = 7 := of_decide_eq_true (by assumption)
    rw [if_neg h6, if_pos h7] at hone
    exact hone _ rfl
  · have h : true = true → l = [] := by assumption
    refine .inr ⟨rfl, rfl, ?_⟩
    repeat' (first | exact True.intro | refine ⟨_, LeL.refl _, ?_⟩ | refine ⟨_, _, _, LeL.refl _, ?_⟩ | (refine fun (b : Bool) hb => ?_; cases b <;> (first | exact absurd hb (by decide) | exact Bool.noConfusion (show true = false from hb) | exact Bool.noConfusion (show false = true from hb) | skip)) | (refine fun (hl : _ ≤ MAXL) => ?_) | refine And.intro (a := I64 _) ?_ ?_ | refine And.intro (a := _ ≤ 140737488355328) ?_ ?_ | refine ⟨_, ⟨rfl, rfl⟩, ?_⟩ | refine ⟨_, And.intro (a := I64 _) ?_ ⟨rfl, rfl⟩, ?_⟩ | refine ⟨_, _, ⟨rfl, rfl⟩, ?_⟩ | refine ⟨_, (fun _ => ⟨rfl, rfl⟩), ?_⟩ | refine And.intro (a := chkPend _ _ _ _ _ _) ?_ ?_ | refine And.intro (a := chkPast _ _ _ _ _ _ _ _) ?_ ?_ | refine ⟨⟨rfl, rfl⟩, ?_⟩ | refine And.intro (And.intro rfl rfl) ?_ | refine ⟨True.intro, ?_⟩ | refine ⟨_, ⟨_, rfl, ?_, rfl, rfl, rfl⟩, ?_⟩ | refine ⟨_, rfl, ?_, rfl, ?_⟩ | refine ⟨_, (fun _ => rfl), rfl, ?_⟩ | refine ⟨(fun _ => rfl), ?_⟩ | refine ⟨rfl, ?_⟩ | refine Opt.a ?_ | fail)
    have h6 : ¬ c.kind = 6 := of_decide_eq_false (by assumption)
    have h7 : c.kind = 7 := of_decide_eq_true (by assumption)
    rw [if_neg h6, if_pos h7, h rfl] at hone
    exact ⟨_, strV, hone [] (by simp [onceB, Lib.compact, Lib.compactUpTo])⟩
  · show (0 + (l.map strV).length) * 16 ≤ 140737488355328
    rw [List.length_map]
    omega
  · refine .inl ⟨l, rfl, rfl, by omega, ?_⟩
    repeat' (first | exact True.intro | refine ⟨_, LeL.refl _, ?_⟩ | refine ⟨_, _, _, LeL.refl _, ?_⟩ | (refine fun (b : Bool) hb => ?_; cases b <;> (first | exact absurd hb (by decide) | exact Bool.noConfusion (show true = false from hb) | exact Bool.noConfusion (show false = true from hb) | skip)) | (refine fun (hl : _ ≤ MAXL) => ?_) | refine And.intro (a := I64 _) ?_ ?_ | refine And.intro (a := _ ≤ 140737488355328) ?_ ?_ | refine ⟨_, ⟨rfl, rfl⟩, ?_⟩ | refine ⟨_, And.intro (a := I64 _) ?_ ⟨rfl, rfl⟩, ?_⟩ | refine ⟨_, _, ⟨rfl, rfl⟩, ?_⟩ | refine ⟨_, (fun _ => ⟨rfl, rfl⟩), ?_⟩ | refine And.intro (a := chkPend _ _ _ _ _ _) ?_ ?_ | refine And.intro (a := chkPast _ _ _ _ _ _ _ _) ?_ ?_ | refine ⟨⟨rfl, rfl⟩, ?_⟩ | refine And.intro (And.intro rfl rfl) ?_ | refine ⟨True.intro, ?_⟩ | refine ⟨_, ⟨_, rfl, ?_, rfl, rfl, rfl⟩, ?_⟩ | refine ⟨_, rfl, ?_, rfl, ?_⟩ | refine ⟨_, (fun _ => rfl), rfl, ?_⟩ | refine ⟨(fun _ => rfl), ?_⟩ | refine ⟨rfl, ?_⟩ | refine Opt.a ?_ | fail)
    have h6 : c.kind = 6 := of_decide_eq_true (by assumption)
    rw [if_pos h6] at hone
    exact hone _ rfl
  · have h : true = true → l = [] := by assumption
    refine .inr ⟨rfl, rfl, ?_⟩
    repeat' (first | exact True.intro | refine ⟨_, LeL.refl _, ?_⟩ | refine ⟨_, _, _, LeL.refl _, ?_⟩ | (refine fun (b : Bool) hb => ?_; cases b <;> (first | exact absurd hb (by decide) | exact Bool.noConfusion (show true = false from hb) | exact Bool.noConfusion (show false = true from hb) | skip)) | (refine fun (hl : _ ≤ MAXL) => ?_) | refine And.intro (a := I64 _) ?_ ?_ | refine And.intro (a := _ ≤ 140737488355328) ?_ ?_ | refine ⟨_, ⟨rfl, rfl⟩, ?_⟩ | refine ⟨_, And.intro (a := I64 _) ?_ ⟨rfl, rfl⟩, ?_⟩ | refine ⟨_, _, ⟨rfl, rfl⟩, ?_⟩ | refine ⟨_, (fun _ => ⟨rfl, rfl⟩), ?_⟩ | refine And.intro (a := chkPend _ _ _ _ _ _) ?_ ?_ | refine And.intro (a := chkPast _ _ _ _ _ _ _ _) ?_ ?_ | refine ⟨⟨rfl, rfl⟩, ?_⟩ | refine And.intro (And.intro rfl rfl) ?_ | refine ⟨True.intro, ?_⟩ | refine ⟨_, ⟨_, rfl, ?_, rfl, rfl, rfl⟩, ?_⟩ | refine ⟨_, rfl, ?_, rfl, ?_⟩ | refine ⟨_, (fun _ => rfl), rfl, ?_⟩ | refine ⟨(fun _ => rfl), ?_⟩ | refine ⟨rfl, ?_⟩ | refine Opt.a ?_ | fail)
    have h6 : c.kind = 6 := of_decide_eq_true (by assumption)
    rw [if_pos h6, h rfl] at hone
    exact ⟨_, strV, hone [] (by simp [sortB])⟩
end Gv
namespace Gv
variable [Glob] [Laid]
theorem put_ca : callable Tryd.prog 17 = true := by kernel_rfl
def put_S : Spec := fun args K => ∃ l : List Bs, args = [.sl strV l] ∧ (put l).length ≤ 1000000 ∧ K (.sl byteV (put l))
noncomputable def put_lib : List (Nat × Spec) := []
noncomputable def put_fns : List (Nat × FnI) := []
noncomputable def put_prims : List (Nat × PSpec) := []
theorem put_E : EnvOK ⟨Tryd.prog, tys, put_lib, put_fns, put_prims, []⟩ := env_ok mixed0 tys0 .nil .nil .nil rfl
set_option maxHeartbeats 4000000 in
theorem put_ok : Pure Tryd.prog 17 put_S := by
  refine pure_by put_E 6 (fi := {fn := Tryd.f17, hooks := [], draws := []}) ⟨Tryd.func17, by kernel_rfl, by kernel_rfl⟩ ?_
  rintro _ K ⟨l, rfl, hb, hK⟩
  refine fun (hl : _ ≤ MAXL) => ?_
  conv => whnf
  refine loop_live [6, 7] (σ := Nat) (fun i => [(3, .own 0), (8, .int .i64 i)]) (fun i => [.row 1 ((put (l.take i)).map byteV)]) (fun i => i ≤ l.length) (fun i => l.length - i) 0 ?_
  conv => whnf
  refine ⟨(by (refine wk_sel [none] rfl rfl ?_ ?_ <;> (repeat' (first | exact True.intro | exact rfl | exact Or.inl rfl | exact Or.inr rfl | refine And.intro ?_ ?_ | fail)))), Nat.zero_le _, fun i hi => ?_⟩
  have h1 := put_take_le l i
  have h2 := put_take_le l (i + 1)
  repeat' (first | exact True.intro | refine ⟨_, LeL.refl _, ?_⟩ | refine ⟨_, _, _, LeL.refl _, ?_⟩ | (refine fun (b : Bool) hb => ?_; cases b <;> (first | exact absurd hb (by decide) | exact Bool.noConfusion (show true = false from hb) | exact Bool.noConfusion (show false = true from hb) | skip)) | (refine fun (hl : _ ≤ MAXL) => ?_) | refine And.intro (a := I64 _) ?_ ?_ | refine And.intro (a := _ ≤ 140737488355328) ?_ ?_ | refine ⟨_, ⟨rfl, rfl⟩, ?_⟩ | refine ⟨_, And.intro (a := I64 _) ?_ ⟨rfl, rfl⟩, ?_⟩ | refine ⟨_, _, ⟨rfl, rfl⟩, ?_⟩ | refine ⟨_, (fun _ => ⟨rfl, rfl⟩), ?_⟩ | refine And.intro (a := chkPend _ _ _ _ _ _) ?_ ?_ | refine And.intro (a := chkPast _ _ _ _ _ _ _ _) ?_ ?_ | refine ⟨⟨rfl, rfl⟩, ?_⟩ | refine And.intro (And.intro rfl rfl) ?_ | refine ⟨True.intro, ?_⟩ | refine ⟨_, ⟨_, rfl, ?_, rfl, rfl, rfl⟩, ?_⟩ | refine ⟨_, rfl, ?_, rfl, ?_⟩ | refine ⟨_, (fun _ => rfl), rfl, ?_⟩ | refine ⟨(fun _ => rfl), ?_⟩ | refine ⟨rfl, ?_⟩ | refine Opt.a ?_ | fail)
  · rw [List.take_of_length_le (by grind)]
    exact hK
  · grind
  · rw [put_take_succ (by grind)] at h2
    simp only [List.length_append, List.length_map, List.length_cons, List.length_nil, Nat.mul_one] at *
    omega
  · rw [put_take_succ (by grind)] at h2
    simp only [List.length_append, List.length_map, List.length_cons, List.length_nil, Nat.mul_one] at *
    omega
  · (first | omega | (unfold I64; omega) | (simp only [List.length_append, List.length_map, List.length_cons, List.length_nil, Nat.mul_one, Int.ofNat_eq_natCast] at *; omega) | (dsimp only at *; omega) | (unfold I64; dsimp only at *; omega) | (unfold I64; grind) | grind)
  · refine ⟨i + 1, ?_, by grind, by grind⟩
    refine wk_sel [some 3] rfl rfl ⟨?_, trivial⟩ ?_
    · rw [put_take_succ (by grind), List.map_append, List.map_append, ← List.append_assoc]
      exact rfl
    · (repeat' (first | exact True.intro | exact rfl | exact Or.inl rfl | exact Or.inr rfl | refine And.intro ?_ ?_ | fail))
end Gv
namespace Gv
variable [Glob] [Laid] [Nums]
theorem Do_ca : callable Tryd.prog 7 = true := by kernel_rfl
def Do_S : Spec := fun args K => ∃ (c : Cmd) (b : Bs), args = [cmdV c, .sl byteV b] ∧ K (.tup [.sl byteV (doC c b).1, .int .i64 (doC c b).2])
noncomputable def Do_lib : List (Nat × Spec) := [(5, ccheck_S), (11, Of_S), (18, linesC_S), (17, put_S)]
noncomputable def Do_fns : List (Nat × FnI) := []
noncomputable def Do_prims : List (Nat × PSpec) := []
theorem Do_E : EnvOK ⟨Tryd.prog, tys, Do_lib, Do_fns, Do_prims, []⟩ := env_ok mixed0 tys0 (.cons ccheck_ca ccheck_ok (.cons Of_ca Of_ok (.cons linesC_ca linesC_ok (.cons put_ca put_ok .nil)))) .nil .nil rfl
set_option maxHeartbeats 4000000 in
theorem Do_ok : Pure Tryd.prog 7 Do_S := by
  refine pure_by Do_E 6 (fi := {fn := Tryd.f7, hooks := [], draws := []}) ⟨Tryd.func7, by kernel_rfl, by kernel_rfl⟩ ?_
  rintro _ K ⟨c, b, rfl, hK⟩
  replace hK : ∀ r, r = .tup [.sl byteV (doC c b).1, .int .i64 (doC c b).2] → K r := fun r h => h ▸ hK
  have hone : ∀ r : Bs × Int, doC c b = r → K (.tup [.sl byteV r.1, .int .i64 r.2]) := fun r h => hK _ (by rw [h])
  unfold doC at hone
  refine ⟨c.kind, c.word, c.n, rfl, ?_⟩
  have hce : checkCmd ⟨c.kind, c.word, c.n⟩ = checkCmd c := rfl
  rw [hce]
  obtain ⟨e, he⟩ : ∃ e, checkCmd c = e := ⟨_, rfl⟩
  rw [he] at hone ⊢
  repeat' (first | exact True.intro | refine ⟨_, LeL.refl _, ?_⟩ | refine ⟨_, _, _, LeL.refl _, ?_⟩ | (refine fun (b : Bool) hb => ?_; cases b <;> (first | exact absurd hb (by decide) | exact Bool.noConfusion (show true = false from hb) | exact Bool.noConfusion (show false = true from hb) | skip)) | (refine fun (hl : _ ≤ MAXL) => ?_) | refine And.intro (a := I64 _) ?_ ?_ | refine And.intro (a := _ ≤ 140737488355328) ?_ ?_ | refine ⟨_, ⟨rfl, rfl⟩, ?_⟩ | refine ⟨_, And.intro (a := I64 _) ?_ ⟨rfl, rfl⟩, ?_⟩ | refine ⟨_, _, ⟨rfl, rfl⟩, ?_⟩ | refine ⟨_, (fun _ => ⟨rfl, rfl⟩), ?_⟩ | refine And.intro (a := chkPend _ _ _ _ _ _) ?_ ?_ | refine And.intro (a := chkPast _ _ _ _ _ _ _ _) ?_ ?_ | refine ⟨⟨rfl, rfl⟩, ?_⟩ | refine And.intro (And.intro rfl rfl) ?_ | refine ⟨True.intro, ?_⟩ | refine ⟨_, ⟨_, rfl, ?_, rfl, rfl, rfl⟩, ?_⟩ | refine ⟨_, rfl, ?_, rfl, ?_⟩ | refine ⟨_, (fun _ => rfl), rfl, ?_⟩ | refine ⟨(fun _ => rfl), ?_⟩ | refine ⟨rfl, ?_⟩ | refine Opt.a ?_ | fail)
  · have h0 : e = 0 := by
      have h : (!decide (e = 0)) = false := by assumption
      simpa using h
    subst h0
    rw [if_neg (by simp)] at hone
    repeat' (first | exact True.intro | refine ⟨_, LeL.refl _, ?_⟩ | refine ⟨_, _, _, LeL.refl _, ?_⟩ | (refine fun (b : Bool) hb => ?_; cases b <;> (first | exact absurd hb (by decide) | exact Bool.noConfusion (show true = false from hb) | exact Bool.noConfusion (show false = true from hb) | skip)) | (refine fun (hl : _ ≤ MAXL) => ?_) | refine And.intro (a := I64 _) ?_ ?_ | refine And.intro (a := _ ≤ 140737488355328) ?_ ?_ | refine ⟨_, ⟨rfl, rfl⟩, ?_⟩ | refine ⟨_, And.intro (a := I64 _) ?_ ⟨rfl, rfl⟩, ?_⟩ | refine ⟨_, _, ⟨rfl, rfl⟩, ?_⟩ | refine ⟨_, (fun _ => ⟨rfl, rfl⟩), ?_⟩ | refine And.intro (a := chkPend _ _ _ _ _ _) ?_ ?_ | refine And.intro (a := chkPast _ _ _ _ _ _ _ _) ?_ ?_ | refine ⟨⟨rfl, rfl⟩, ?_⟩ | refine And.intro (And.intro rfl rfl) ?_ | refine ⟨True.intro, ?_⟩ | refine ⟨_, ⟨_, rfl, ?_, rfl, rfl, rfl⟩, ?_⟩ | refine ⟨_, rfl, ?_, rfl, ?_⟩ | refine ⟨_, (fun _ => rfl), rfl, ?_⟩ | refine ⟨(fun _ => rfl), ?_⟩ | refine ⟨rfl, ?_⟩ | refine Opt.a ?_ | fail)
    refine ⟨b, rfl, ?_⟩
    unfold lineOf
    by_cases hb : 4000 < b.length
    · rw [if_pos hb] at hone ⊢
      repeat' (first | exact True.intro | refine ⟨_, LeL.refl _, ?_⟩ | refine ⟨_, _, _, LeL.refl _, ?_⟩ | (refine fun (b : Bool) hb => ?_; cases b <;> (first | exact absurd hb (by decide) | exact Bool.noConfusion (show true = false from hb) | exact Bool.noConfusion (show false = true from hb) | skip)) | (refine fun (hl : _ ≤ MAXL) => ?_) | refine And.intro (a := I64 _) ?_ ?_ | refine And.intro (a := _ ≤ 140737488355328) ?_ ?_ | refine ⟨_, ⟨rfl, rfl⟩, ?_⟩ | refine ⟨_, And.intro (a := I64 _) ?_ ⟨rfl, rfl⟩, ?_⟩ | refine ⟨_, _, ⟨rfl, rfl⟩, ?_⟩ | refine ⟨_, (fun _ => ⟨rfl, rfl⟩), ?_⟩ | refine And.intro (a := chkPend _ _ _ _ _ _) ?_ ?_ | refine And.intro (a := chkPast _ _ _ _ _ _ _ _) ?_ ?_ | refine ⟨⟨rfl, rfl⟩, ?_⟩ | refine And.intro (And.intro rfl rfl) ?_ | refine ⟨True.intro, ?_⟩ | refine ⟨_, ⟨_, rfl, ?_, rfl, rfl, rfl⟩, ?_⟩ | refine ⟨_, rfl, ?_, rfl, ?_⟩ | refine ⟨_, (fun _ => rfl), rfl, ?_⟩ | refine ⟨(fun _ => rfl), ?_⟩ | refine ⟨rfl, ?_⟩ | refine Opt.a ?_ | fail)
      exact ⟨_, byteV, hone _ rfl⟩
    rw [if_neg hb] at hone ⊢
    repeat' (first | exact True.intro | refine ⟨_, LeL.refl _, ?_⟩ | refine ⟨_, _, _, LeL.refl _, ?_⟩ | (refine fun (b : Bool) hb => ?_; cases b <;> (first | exact absurd hb (by decide) | exact Bool.noConfusion (show true = false from hb) | exact Bool.noConfusion (show false = true from hb) | skip)) | (refine fun (hl : _ ≤ MAXL) => ?_) | refine And.intro (a := I64 _) ?_ ?_ | refine And.intro (a := _ ≤ 140737488355328) ?_ ?_ | refine ⟨_, ⟨rfl, rfl⟩, ?_⟩ | refine ⟨_, And.intro (a := I64 _) ?_ ⟨rfl, rfl⟩, ?_⟩ | refine ⟨_, _, ⟨rfl, rfl⟩, ?_⟩ | refine ⟨_, (fun _ => ⟨rfl, rfl⟩), ?_⟩ | refine And.intro (a := chkPend _ _ _ _ _ _) ?_ ?_ | refine And.intro (a := chkPast _ _ _ _ _ _ _ _) ?_ ?_ | refine ⟨⟨rfl, rfl⟩, ?_⟩ | refine And.intro (And.intro rfl rfl) ?_ | refine ⟨True.intro, ?_⟩ | refine ⟨_, ⟨_, rfl, ?_, rfl, rfl, rfl⟩, ?_⟩ | refine ⟨_, rfl, ?_, rfl, ?_⟩ | refine ⟨_, (fun _ => rfl), rfl, ?_⟩ | refine ⟨(fun _ => rfl), ?_⟩ | refine ⟨rfl, ?_⟩ | refine Opt.a ?_ | fail)
    have hll := linesOf_len b
    refine ⟨c, linesOf b, rfl, ⟨he, by omega, fun s hs => by have := linesOf_el b s hs; omega⟩, ?_⟩
    repeat' (first | exact True.intro | refine ⟨_, LeL.refl _, ?_⟩ | refine ⟨_, _, _, LeL.refl _, ?_⟩ | (refine fun (b : Bool) hb => ?_; cases b <;> (first | exact absurd hb (by decide) | exact Bool.noConfusion (show true = false from hb) | exact Bool.noConfusion (show false = true from hb) | skip)) | (refine fun (hl : _ ≤ MAXL) => ?_) | refine And.intro (a := I64 _) ?_ ?_ | refine And.intro (a := _ ≤ 140737488355328) ?_ ?_ | refine ⟨_, ⟨rfl, rfl⟩, ?_⟩ | refine ⟨_, And.intro (a := I64 _) ?_ ⟨rfl, rfl⟩, ?_⟩ | refine ⟨_, _, ⟨rfl, rfl⟩, ?_⟩ | refine ⟨_, (fun _ => ⟨rfl, rfl⟩), ?_⟩ | refine And.intro (a := chkPend _ _ _ _ _ _) ?_ ?_ | refine And.intro (a := chkPast _ _ _ _ _ _ _ _) ?_ ?_ | refine ⟨⟨rfl, rfl⟩, ?_⟩ | refine And.intro (And.intro rfl rfl) ?_ | refine ⟨True.intro, ?_⟩ | refine ⟨_, ⟨_, rfl, ?_, rfl, rfl, rfl⟩, ?_⟩ | refine ⟨_, rfl, ?_, rfl, ?_⟩ | refine ⟨_, (fun _ => rfl), rfl, ?_⟩ | refine ⟨(fun _ => rfl), ?_⟩ | refine ⟨rfl, ?_⟩ | refine Opt.a ?_ | fail)
    have hp := linesC_put he (linesOf b) (by omega)
    have hw := whole_len b
    unfold whole at hw
    refine ⟨linesC c (linesOf b), rfl, by omega, ?_⟩
    repeat' (first | exact True.intro | refine ⟨_, LeL.refl _, ?_⟩ | refine ⟨_, _, _, LeL.refl _, ?_⟩ | (refine fun (b : Bool) hb => ?_; cases b <;> (first | exact absurd hb (by decide) | exact Bool.noConfusion (show true = false from hb) | exact Bool.noConfusion (show false = true from hb) | skip)) | (refine fun (hl : _ ≤ MAXL) => ?_) | refine And.intro (a := I64 _) ?_ ?_ | refine And.intro (a := _ ≤ 140737488355328) ?_ ?_ | refine ⟨_, ⟨rfl, rfl⟩, ?_⟩ | refine ⟨_, And.intro (a := I64 _) ?_ ⟨rfl, rfl⟩, ?_⟩ | refine ⟨_, _, ⟨rfl, rfl⟩, ?_⟩ | refine ⟨_, (fun _ => ⟨rfl, rfl⟩), ?_⟩ | refine And.intro (a := chkPend _ _ _ _ _ _) ?_ ?_ | refine And.intro (a := chkPast _ _ _ _ _ _ _ _) ?_ ?_ | refine ⟨⟨rfl, rfl⟩, ?_⟩ | refine And.intro (And.intro rfl rfl) ?_ | refine ⟨True.intro, ?_⟩ | refine ⟨_, ⟨_, rfl, ?_, rfl, rfl, rfl⟩, ?_⟩ | refine ⟨_, rfl, ?_, rfl, ?_⟩ | refine ⟨_, (fun _ => rfl), rfl, ?_⟩ | refine ⟨(fun _ => rfl), ?_⟩ | refine ⟨rfl, ?_⟩ | refine Opt.a ?_ | fail)
    exact hone _ rfl
  · have h0 : ¬ e = 0 := by
      have h : (!decide (e = 0)) = true := by assumption
      simpa using h
    rw [if_pos h0] at hone
    repeat' (first | exact True.intro | refine ⟨_, LeL.refl _, ?_⟩ | refine ⟨_, _, _, LeL.refl _, ?_⟩ | (refine fun (b : Bool) hb => ?_; cases b <;> (first | exact absurd hb (by decide) | exact Bool.noConfusion (show true = false from hb) | exact Bool.noConfusion (show false = true from hb) | skip)) | (refine fun (hl : _ ≤ MAXL) => ?_) | refine And.intro (a := I64 _) ?_ ?_ | refine And.intro (a := _ ≤ 140737488355328) ?_ ?_ | refine ⟨_, ⟨rfl, rfl⟩, ?_⟩ | refine ⟨_, And.intro (a := I64 _) ?_ ⟨rfl, rfl⟩, ?_⟩ | refine ⟨_, _, ⟨rfl, rfl⟩, ?_⟩ | refine ⟨_, (fun _ => ⟨rfl, rfl⟩), ?_⟩ | refine And.intro (a := chkPend _ _ _ _ _ _) ?_ ?_ | refine And.intro (a := chkPast _ _ _ _ _ _ _ _) ?_ ?_ | refine ⟨⟨rfl, rfl⟩, ?_⟩ | refine And.intro (And.intro rfl rfl) ?_ | refine ⟨True.intro, ?_⟩ | refine ⟨_, ⟨_, rfl, ?_, rfl, rfl, rfl⟩, ?_⟩ | refine ⟨_, rfl, ?_, rfl, ?_⟩ | refine ⟨_, (fun _ => rfl), rfl, ?_⟩ | refine ⟨(fun _ => rfl), ?_⟩ | refine ⟨rfl, ?_⟩ | refine Opt.a ?_ | fail)
    exact ⟨_, byteV, hone _ rfl⟩
end Gv
