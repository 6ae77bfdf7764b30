/- What functions of the program come to, part 1: in every world; the conditions stand in each theorem. -/
import Derived.Test.YtffljdmmambdjabGreatDoorVd
import Derived.Test.YtffljdmmambdjabGreatDoorProg
import Derived.Test.YtffljdmmambdjabGreatDoorSh
set_option linter.unusedVariables false
set_option linter.unusedSectionVars false
set_option linter.unusedSimpArgs false
open Go Go.Proofs Gw Gp
namespace Gv
variable [Glob]
noncomputable def tys : List (Nat × TI) := [(2, ⟨(.int .i64 0), 1, 8, false, (.int .i64)⟩),
    (3, ⟨(.int .i64 0), 1, 8, false, (.int .i64)⟩),
    (4, ⟨(.bool false), 1, 1, false, .bool⟩),
    (5, ⟨(.int .u8 0), 1, 1, false, (.int .u8)⟩),
    (9, ⟨(.string ⟨#[]⟩), 1, 16, false, .str⟩),
    (20, ⟨.nilIface, 1, 16, false, .iface⟩),
    (22, ⟨(.slice none 0 0), 1, 24, false, (.slice 67)⟩),
    (23, ⟨(.slice none 0 0), 1, 24, false, (.slice 27)⟩),
    (24, ⟨(.slice none 0 0), 1, 24, false, (.slice 9)⟩),
    (25, ⟨(.slice none 0 0), 1, 24, false, (.slice 48)⟩),
    (27, ⟨(.agg #[(.slice none 0 0), (.slice none 0 0), (.string ⟨#[]⟩)]), 3, 64, true, (.struct [(24, 0), (25, 1), (9, 2)])⟩),
    (28, ⟨(.slice none 0 0), 1, 24, false, (.slice 3)⟩),
    (29, ⟨(.slice none 0 0), 1, 24, false, (.slice 5)⟩),
    (30, ⟨(.int .i64 0), 1, 8, false, (.int .i64)⟩),
    (36, ⟨.nilFunc, 1, 8, false, .other⟩),
    (37, ⟨.nilFunc, 1, 8, false, .other⟩),
    (48, ⟨(.agg #[(.int .i64 0), (.string ⟨#[]⟩), (.int .i64 0)]), 3, 32, true, (.struct [(3, 0), (9, 1), (3, 2)])⟩),
    (67, ⟨(.agg #[(.string ⟨#[]⟩), (.slice none 0 0)]), 2, 40, true, (.struct [(9, 0), (29, 1)])⟩),
    (70, ⟨.nilFunc, 1, 8, false, .other⟩),
    (75, ⟨.nilFunc, 1, 8, false, .other⟩),
    (80, ⟨(.slice none 0 0), 1, 24, false, (.slice 29)⟩),
    (84, ⟨.nilIface, 1, 16, false, .iface⟩),
    (92, ⟨(.slice none 0 0), 1, 24, false, (.slice 99)⟩),
    (94, ⟨(.agg #[(.slice none 0 0)]), 1, 24, true, (.struct [(92, 0)])⟩),
    (97, ⟨(.slice none 0 0), 1, 24, false, (.slice 173)⟩),
    (99, ⟨(.agg #[(.int .i64 0), (.string ⟨#[]⟩), (.int .i64 0), (.string ⟨#[]⟩), (.int .i64 0), (.int .i64 0), (.int .i64 0), (.slice none 0 0)]), 8, 96, true, (.struct [(3, 0), (9, 1), (48, 2), (3, 5), (3, 6), (97, 7)])⟩),
    (100, ⟨.nilFunc, 1, 8, false, .other⟩),
    (113, ⟨(.slice none 0 0), 1, 24, false, (.slice 193)⟩),
    (114, ⟨(.slice none 0 0), 1, 24, false, (.slice 195)⟩),
    (116, ⟨(.agg #[(.slice none 0 0), (.slice none 0 0), (.slice none 0 0), (.slice none 0 0), (.slice none 0 0)]), 5, 120, true, (.struct [(94, 0), (22, 1), (113, 2), (114, 3), (29, 4)])⟩),
    (119, ⟨(.slice none 0 0), 1, 24, false, (.slice 30)⟩),
    (125, ⟨.nilFunc, 1, 8, false, .other⟩),
    (127, ⟨.nilFunc, 1, 8, false, .other⟩),
    (130, ⟨(.map none), 1, 8, false, (.map 3 9)⟩),
    (133, ⟨.nilFunc, 1, 8, false, .other⟩),
    (140, ⟨(.pointer none), 1, 8, false, .other⟩),
    (142, ⟨(.agg #[(.pointer none), (.slice none 0 0)]), 2, 32, true, (.struct [(140, 0), (29, 1)])⟩),
    (143, ⟨(.agg #[(.string ⟨#[]⟩), (.string ⟨#[]⟩), (.string ⟨#[]⟩), (.string ⟨#[]⟩), (.string ⟨#[]⟩), (.string ⟨#[]⟩), (.string ⟨#[]⟩), (.string ⟨#[]⟩), (.string ⟨#[]⟩), (.string ⟨#[]⟩), (.string ⟨#[]⟩)]), 11, 176, true, (.array 11 9)⟩),
    (160, ⟨.nilFunc, 1, 8, false, .other⟩),
    (168, ⟨(.slice none 0 0), 1, 24, false, (.slice 24)⟩),
    (171, ⟨(.slice none 0 0), 1, 24, false, (.slice 80)⟩),
    (173, ⟨(.agg #[(.int .i64 0), (.int .i64 0)]), 2, 16, true, (.struct [(3, 0), (3, 1)])⟩),
    (177, ⟨(.map none), 1, 8, false, (.map 3 3)⟩),
    (178, ⟨(.map none), 1, 8, false, (.map 4 3)⟩),
    (179, ⟨(.pointer none), 1, 8, false, .other⟩),
    (181, ⟨(.agg #[(.slice none 0 0), (.slice none 0 0)]), 2, 48, true, (.struct [(94, 0), (97, 1)])⟩),
    (185, ⟨(.map none), 1, 8, false, (.map 173 4)⟩),
    (189, ⟨.nilFunc, 1, 8, false, .other⟩),
    (190, ⟨.nilFunc, 1, 8, false, .other⟩),
    (193, ⟨(.agg #[(.slice none 0 0), (.int .i64 0), (.bool false), (.bool false)]), 4, 40, true, (.struct [(29, 0), (3, 1), (4, 2), (4, 3)])⟩),
    (195, ⟨(.agg #[(.slice none 0 0), (.int .i64 0), (.slice none 0 0), (.bool false), (.bool false)]), 5, 64, true, (.struct [(80, 0), (3, 1), (80, 2), (4, 3), (4, 4)])⟩),
    (199, ⟨(.pointer none), 1, 8, false, .other⟩),
    (209, ⟨(.int .u64 0), 1, 8, false, (.int .u64)⟩),
    (249, ⟨.nilFunc, 1, 8, false, .other⟩),
    (310, ⟨(.pointer none), 1, 8, false, .other⟩),
    (314, ⟨(.int .i64 0), 1, 8, false, (.int .i64)⟩),
    (348, ⟨(.pointer none), 1, 8, false, .other⟩),
    (353, ⟨(.int .u64 0), 1, 8, false, (.int .u64)⟩)]
theorem mixed0 : (Tryz.prog).follows .mixedOrders = true := by kernel_rfl
theorem tys0 : TysOK Tryz.prog tys := tys_ok (by kernel_rfl)
theorem E0ok : EnvOK ⟨Tryz.prog, tys, [], [], [], []⟩ := env_ok mixed0 tys0 .nil .nil .nil rfl
/-- What the library's variables hold. -/
class Laid : Prop where
  maxlen : ∀ w, Sub Glob.mem w → ∃ n, w.cell? ⟨2, 0, none⟩ = some (.int .i64 n)
/-- What the tables of numbers hold. -/
class Nums : Prop where
  pow10 : ∀ w, Sub Glob.mem w → Lib.TabIs Tryz.prog w "internal/strconv.uint64pow10" .u64 Lib.pow10Tab
/-- The library's errors. -/
class Errs : Prop where
  syn : ∀ w, Sub Glob.mem w → ∃ tp p, w.var? Tryz.prog "strconv.ErrSyntax" = some #[.iface tp p]
  rng : ∀ w, Sub Glob.mem w → ∃ tp p, w.var? Tryz.prog "strconv.ErrRange" = some #[.iface tp p]
end Gv
namespace Gv
variable [Glob] [Laid]
theorem word1_ca : callable Tryz.prog 101 = true := by kernel_rfl
def word1_S : Spec := fun args K => ∃ (c : UInt8), args = [byteV c] ∧ K (.bool (!wordByte c))
noncomputable def word1_lib : List (Nat × Spec) := []
noncomputable def word1_fns : List (Nat × FnI) := []
noncomputable def word1_prims : List (Nat × PSpec) := []
theorem word1_E : EnvOK ⟨Tryz.prog, tys, word1_lib, word1_fns, word1_prims, []⟩ := env_ok mixed0 tys0 .nil .nil .nil rfl
set_option maxHeartbeats 4000000 in
theorem word1_ok : Pure Tryz.prog 101 word1_S := by
  refine pure_by word1_E 6 (fi := {fn := Tryz.f101, hooks := [], draws := []}) ⟨Tryz.func101, by kernel_rfl, by kernel_rfl⟩ ?_
  rintro _ K ⟨c, rfl, hK⟩
  replace hK : ∀ r, r = .bool (!wordByte c) → K r := fun r h => h ▸ hK
  repeat' (first | exact True.intro | refine ⟨_, LeL.refl _, ?_⟩ | refine ⟨_, _, _, LeL.refl _, ?_⟩ | (refine fun (b : Bool) hb => ?_; cases b <;> (first | exact absurd hb (by decide) | exact Bool.noConfusion (show true = false from hb) | exact Bool.noConfusion (show false = true from hb) | skip)) | (refine fun (hl : _ ≤ MAXL) => ?_) | refine And.intro (a := I64 _) ?_ ?_ | refine And.intro (a := _ ≤ 140737488355328) ?_ ?_ | refine ⟨_, ⟨rfl, rfl⟩, ?_⟩ | refine ⟨_, And.intro (a := I64 _) ?_ ⟨rfl, rfl⟩, ?_⟩ | refine ⟨_, _, ⟨rfl, rfl⟩, ?_⟩ | refine ⟨_, (fun _ => ⟨rfl, rfl⟩), ?_⟩ | refine And.intro (a := chkPend _ _ _ _ _ _) ?_ ?_ | refine And.intro (a := chkPast _ _ _ _ _ _ _ _) ?_ ?_ | refine ⟨⟨rfl, rfl⟩, ?_⟩ | refine And.intro (And.intro rfl rfl) ?_ | refine ⟨True.intro, ?_⟩ | refine ⟨_, ⟨_, rfl, ?_, rfl, rfl, rfl⟩, ?_⟩ | refine ⟨_, rfl, ?_, rfl, ?_⟩ | refine ⟨_, (fun _ => rfl), rfl, ?_⟩ | refine ⟨(fun _ => rfl), ?_⟩ | refine ⟨rfl, ?_⟩ | refine Opt.a ?_ | fail)
  all_goals (refine hK _ ?_; unfold wordByte; congr 1; grind)
end Gv
namespace Gv
variable [Glob] [Laid]
theorem word_ca : callable Tryz.prog 32 = true := by kernel_rfl
def word_S : Spec := fun args K => ∃ (s : Bs), args = [.str s] ∧ K (.bool (isWord s))
noncomputable def word_lib : List (Nat × Spec) := [(101, word1_S)]
noncomputable def word_fns : List (Nat × FnI) := [(100, {fn := Tryz.f100, hooks := [], draws := []}), (162, {fn := Tryz.f162, hooks := [], draws := []})]
noncomputable def word_prims : List (Nat × PSpec) := []
theorem word_E : EnvOK ⟨Tryz.prog, tys, word_lib, word_fns, word_prims, []⟩ := env_ok mixed0 tys0 (.cons word1_ca word1_ok .nil) (.cons (by kernel_rfl) ⟨Tryz.func100, by kernel_rfl, by kernel_rfl⟩ (.cons (by kernel_rfl) ⟨Tryz.func162, by kernel_rfl, by kernel_rfl⟩ .nil)) .nil rfl
set_option maxHeartbeats 4000000 in
theorem word_ok : Pure Tryz.prog 32 word_S := by
  refine pure_by word_E 6 (fi := {fn := Tryz.f32, hooks := [], draws := []}) ⟨Tryz.func32, by kernel_rfl, by kernel_rfl⟩ ?_
  rintro _ K ⟨s, rfl, hK⟩
  replace hK : ∀ r, r = .bool (isWord s) → K r := fun r h => h ▸ hK
  repeat' (first | exact True.intro | refine ⟨_, LeL.refl _, ?_⟩ | refine ⟨_, _, _, LeL.refl _, ?_⟩ | (refine fun (b : Bool) hb => ?_; cases b <;> (first | exact absurd hb (by decide) | exact Bool.noConfusion (show true = false from hb) | exact Bool.noConfusion (show false = true from hb) | skip)) | (refine fun (hl : _ ≤ MAXL) => ?_) | refine And.intro (a := I64 _) ?_ ?_ | refine And.intro (a := _ ≤ 140737488355328) ?_ ?_ | refine ⟨_, ⟨rfl, rfl⟩, ?_⟩ | refine ⟨_, And.intro (a := I64 _) ?_ ⟨rfl, rfl⟩, ?_⟩ | refine ⟨_, _, ⟨rfl, rfl⟩, ?_⟩ | refine ⟨_, (fun _ => ⟨rfl, rfl⟩), ?_⟩ | refine And.intro (a := chkPend _ _ _ _ _ _) ?_ ?_ | refine And.intro (a := chkPast _ _ _ _ _ _ _ _) ?_ ?_ | refine ⟨⟨rfl, rfl⟩, ?_⟩ | refine And.intro (And.intro rfl rfl) ?_ | refine ⟨True.intro, ?_⟩ | refine ⟨_, ⟨_, rfl, ?_, rfl, rfl, rfl⟩, ?_⟩ | refine ⟨_, rfl, ?_, rfl, ?_⟩ | refine ⟨_, (fun _ => rfl), rfl, ?_⟩ | refine ⟨(fun _ => rfl), ?_⟩ | refine ⟨rfl, ?_⟩ | refine Opt.a ?_ | fail)
  · refine hK _ ?_
    have h : (!decide (s = [])) = false := by assumption
    have : s = [] := by simpa using h
    subst this; rfl
  · refine hK _ ?_
    have h : decide ((s.length : Int) ≤ 12) = false := by assumption
    have h2 : ¬ s.length ≤ 12 := by
      intro h3
      have : ((s.length : Int) ≤ 12) := by omega
      simp [this] at h
    simp [isWord, h2]
  · have h : decide ((s.length : Int) ≤ 12) = true := by assumption
    have h2 : (s.length : Int) ≤ 12 := by simpa using h
    omega
  have hw : ∃ t : Bool, isWord s = t ∧ t = s.all wordByte := by
    have h : (!decide (s = [])) = true := by assumption
    have h1 : s ≠ [] := by simpa using h
    have h : decide ((s.length : Int) ≤ 12) = true := by assumption
    have h2 : (s.length : Int) ≤ 12 := by simpa using h
    have h3 : s.length ≤ 12 := by omega
    exact ⟨s.all wordByte, by simp [isWord, h1, h3], rfl⟩
  obtain ⟨t, ht, hta⟩ := hw
  rw [ht] at hK
  conv => whnf
  refine loop_live [0, 1, 7] (σ := Nat) (fun i => [(8, .int .i64 i)]) (fun _ => []) (fun i => i ≤ s.length ∧ (s.take i).all wordByte = true) (fun i => s.length - i) 0 ?_
  conv => whnf
  refine ⟨(by (refine wk_sel [] rfl rfl ?_ ?_ <;> (repeat' (first | exact True.intro | exact rfl | exact Or.inl rfl | exact Or.inr rfl | refine And.intro ?_ ?_ | fail)))), ⟨Nat.zero_le _, rfl⟩, fun i hi => ?_⟩
  obtain ⟨hi, hI⟩ := hi
  repeat' (first | exact True.intro | refine ⟨_, LeL.refl _, ?_⟩ | refine ⟨_, _, _, LeL.refl _, ?_⟩ | (refine fun (b : Bool) hb => ?_; cases b <;> (first | exact absurd hb (by decide) | exact Bool.noConfusion (show true = false from hb) | exact Bool.noConfusion (show false = true from hb) | skip)) | (refine fun (hl : _ ≤ MAXL) => ?_) | refine And.intro (a := I64 _) ?_ ?_ | refine And.intro (a := _ ≤ 140737488355328) ?_ ?_ | refine ⟨_, ⟨rfl, rfl⟩, ?_⟩ | refine ⟨_, And.intro (a := I64 _) ?_ ⟨rfl, rfl⟩, ?_⟩ | refine ⟨_, _, ⟨rfl, rfl⟩, ?_⟩ | refine ⟨_, (fun _ => ⟨rfl, rfl⟩), ?_⟩ | refine And.intro (a := chkPend _ _ _ _ _ _) ?_ ?_ | refine And.intro (a := chkPast _ _ _ _ _ _ _ _) ?_ ?_ | refine ⟨⟨rfl, rfl⟩, ?_⟩ | refine And.intro (And.intro rfl rfl) ?_ | refine ⟨True.intro, ?_⟩ | refine ⟨_, ⟨_, rfl, ?_, rfl, rfl, rfl⟩, ?_⟩ | refine ⟨_, rfl, ?_, rfl, ?_⟩ | refine ⟨_, (fun _ => rfl), rfl, ?_⟩ | refine ⟨(fun _ => rfl), ?_⟩ | refine ⟨rfl, ?_⟩ | refine Opt.a ?_ | fail)
  · have e : s.take i = s := List.take_of_length_le (by grind)
    rw [e] at hI
    refine hK _ ?_
    rw [hta, hI]
    rfl
  · grind
  have hi2 : i < s.length := by grind
  refine ⟨s[i], rfl, ?_⟩
  have hts : s.take (i + 1) = s.take i ++ [s[i]] := List.take_succ_eq_append_getElem hi2
  repeat' (first | exact True.intro | refine ⟨_, LeL.refl _, ?_⟩ | refine ⟨_, _, _, LeL.refl _, ?_⟩ | (refine fun (b : Bool) hb => ?_; cases b <;> (first | exact absurd hb (by decide) | exact Bool.noConfusion (show true = false from hb) | exact Bool.noConfusion (show false = true from hb) | skip)) | (refine fun (hl : _ ≤ MAXL) => ?_) | refine And.intro (a := I64 _) ?_ ?_ | refine And.intro (a := _ ≤ 140737488355328) ?_ ?_ | refine ⟨_, ⟨rfl, rfl⟩, ?_⟩ | refine ⟨_, And.intro (a := I64 _) ?_ ⟨rfl, rfl⟩, ?_⟩ | refine ⟨_, _, ⟨rfl, rfl⟩, ?_⟩ | refine ⟨_, (fun _ => ⟨rfl, rfl⟩), ?_⟩ | refine And.intro (a := chkPend _ _ _ _ _ _) ?_ ?_ | refine And.intro (a := chkPast _ _ _ _ _ _ _ _) ?_ ?_ | refine ⟨⟨rfl, rfl⟩, ?_⟩ | refine And.intro (And.intro rfl rfl) ?_ | refine ⟨True.intro, ?_⟩ | refine ⟨_, ⟨_, rfl, ?_, rfl, rfl, rfl⟩, ?_⟩ | refine ⟨_, rfl, ?_, rfl, ?_⟩ | refine ⟨_, (fun _ => rfl), rfl, ?_⟩ | refine ⟨(fun _ => rfl), ?_⟩ | refine ⟨rfl, ?_⟩ | refine Opt.a ?_ | fail)
  · (first | omega | (unfold I64; omega) | (simp only [List.length_append, List.length_map, List.length_cons, List.length_nil, Nat.mul_one, Int.ofNat_eq_natCast] at *; omega) | (dsimp only at *; omega) | (unfold I64; dsimp only at *; omega) | (unfold I64; grind) | grind)
  · refine ⟨i + 1, (by (refine wk_sel [] rfl rfl ?_ ?_ <;> (repeat' (first | exact True.intro | exact rfl | exact Or.inl rfl | exact Or.inr rfl | refine And.intro ?_ ?_ | fail)))), ⟨by omega, ?_⟩, by omega⟩
    rw [hts, List.all_append, hI]
    grind
  · refine hK _ ?_
    have h1 : wordByte s[i] = false := by grind
    have h2 : s.all wordByte = false := by
      rw [List.all_eq_false]
      exact ⟨s[i], List.getElem_mem hi2, by simp [h1]⟩
    rw [hta, h2]
    simp
end Gv
namespace Gv
variable [Glob] [Laid]
theorem ccheck_ca : callable Tryz.prog 31 = true := by kernel_rfl
def ccheck_S : Spec := fun args K => ∃ (k : Int) (s : Bs) (n : Int), args = [.agg [.int .i64 k, .str s, .int .i64 n]] ∧ K (.int .i64 (checkCmd ⟨k, s, n⟩))
noncomputable def ccheck_lib : List (Nat × Spec) := [(32, word_S)]
noncomputable def ccheck_fns : List (Nat × FnI) := []
noncomputable def ccheck_prims : List (Nat × PSpec) := []
theorem ccheck_E : EnvOK ⟨Tryz.prog, tys, ccheck_lib, ccheck_fns, ccheck_prims, []⟩ := env_ok mixed0 tys0 (.cons word_ca word_ok .nil) .nil .nil rfl
set_option maxHeartbeats 4000000 in
theorem ccheck_ok : Pure Tryz.prog 31 ccheck_S := by
  refine pure_by ccheck_E 6 (fi := {fn := Tryz.f31, hooks := [4, 5, 7, 9], draws := []}) ⟨Tryz.func31, by kernel_rfl, by kernel_rfl⟩ ?_
  rintro _ K ⟨k, s, n, rfl, hK⟩
  replace hK : ∀ r, r = .int .i64 (checkCmd ⟨k, s, n⟩) → K r := fun r h => h ▸ hK
  obtain ⟨uw, huw⟩ : ∃ b, useWord ⟨k, s, n⟩ = b := ⟨_, rfl⟩
  obtain ⟨un, hun⟩ : ∃ b, useN ⟨k, s, n⟩ = b := ⟨_, rfl⟩
  have hc : checkCmd ⟨k, s, n⟩ = if k < 1 ∨ 10 < k then 4 else if (uw = false ∧ s ≠ []) ∨ (un = false ∧ n ≠ 0) then 4 else if un = true ∧ (n < 1 ∨ 1000 < n) then 3 else if (uw = true ∧ isWord s = false) ∨ (k = 3 ∧ s.length ≠ 2) then 1 else 0 := by
    unfold checkCmd
    rw [huw, hun]
  rw [hc] at hK
  clear hc
  simp only [useWord] at huw
  simp only [useN] at hun
  repeat' (first | exact True.intro | refine ⟨_, LeL.refl _, ?_⟩ | refine ⟨_, _, _, LeL.refl _, ?_⟩ | (refine fun (b : Bool) hb => ?_; cases b <;> (first | exact absurd hb (by decide) | exact Bool.noConfusion (show true = false from hb) | exact Bool.noConfusion (show false = true from hb) | skip)) | (refine fun (hl : _ ≤ MAXL) => ?_) | refine And.intro (a := I64 _) ?_ ?_ | refine And.intro (a := _ ≤ 140737488355328) ?_ ?_ | refine ⟨_, ⟨rfl, rfl⟩, ?_⟩ | refine ⟨_, And.intro (a := I64 _) ?_ ⟨rfl, rfl⟩, ?_⟩ | refine ⟨_, _, ⟨rfl, rfl⟩, ?_⟩ | refine ⟨_, (fun _ => ⟨rfl, rfl⟩), ?_⟩ | refine And.intro (a := chkPend _ _ _ _ _ _) ?_ ?_ | refine And.intro (a := chkPast _ _ _ _ _ _ _ _) ?_ ?_ | refine ⟨⟨rfl, rfl⟩, ?_⟩ | refine And.intro (And.intro rfl rfl) ?_ | refine ⟨True.intro, ?_⟩ | refine ⟨_, ⟨_, rfl, ?_, rfl, rfl, rfl⟩, ?_⟩ | refine ⟨_, rfl, ?_, rfl, ?_⟩ | refine ⟨_, (fun _ => rfl), rfl, ?_⟩ | refine ⟨(fun _ => rfl), ?_⟩ | refine ⟨rfl, ?_⟩ | refine Opt.a ?_ | fail)
  rotate_left
  · exact hK _ (by rw [if_pos (by grind)])
  · exact hK _ (by rw [if_pos (by grind)])
  have h1 : ¬ (k < 1 ∨ 10 < k) := by grind
  simp only [h1, if_false] at hK
  conv => whnf
  refine join_live [1] (σ := Bool) (fun b => [(3, .bool b)]) (fun _ => [.box [.int .i64 k, .str s, .int .i64 n]]) (fun b => b = uw) ?_
  conv => whnf
  refine ⟨?_, fun b hbu => ?_⟩
  · repeat' (first | exact True.intro | refine ⟨_, LeL.refl _, ?_⟩ | refine ⟨_, _, _, LeL.refl _, ?_⟩ | (refine fun (b : Bool) hb => ?_; cases b <;> (first | exact absurd hb (by decide) | exact Bool.noConfusion (show true = false from hb) | exact Bool.noConfusion (show false = true from hb) | skip)) | (refine fun (hl : _ ≤ MAXL) => ?_) | refine And.intro (a := I64 _) ?_ ?_ | refine And.intro (a := _ ≤ 140737488355328) ?_ ?_ | refine ⟨_, ⟨rfl, rfl⟩, ?_⟩ | refine ⟨_, And.intro (a := I64 _) ?_ ⟨rfl, rfl⟩, ?_⟩ | refine ⟨_, _, ⟨rfl, rfl⟩, ?_⟩ | refine ⟨_, (fun _ => ⟨rfl, rfl⟩), ?_⟩ | refine And.intro (a := chkPend _ _ _ _ _ _) ?_ ?_ | refine And.intro (a := chkPast _ _ _ _ _ _ _ _) ?_ ?_ | refine ⟨⟨rfl, rfl⟩, ?_⟩ | refine And.intro (And.intro rfl rfl) ?_ | refine ⟨True.intro, ?_⟩ | refine ⟨_, ⟨_, rfl, ?_, rfl, rfl, rfl⟩, ?_⟩ | refine ⟨_, rfl, ?_, rfl, ?_⟩ | refine ⟨_, (fun _ => rfl), rfl, ?_⟩ | refine ⟨(fun _ => rfl), ?_⟩ | refine ⟨rfl, ?_⟩ | refine Opt.a ?_ | fail)
    all_goals (refine ⟨_, by refine wk_sel [some 0] rfl rfl ?_ ?_ <;> (repeat' (first | exact True.intro | exact rfl | exact Or.inl rfl | exact Or.inr rfl | refine And.intro ?_ ?_ | fail)), ?_⟩; rw [← huw]; simp_all)
  obtain rfl : uw = b := hbu.symm
  clear huw
  conv => whnf
  refine join_live [1, 3] (σ := Bool) (fun b => [(4, .bool b)]) (fun _ => [.box [.int .i64 k, .str s, .int .i64 n]]) (fun b => b = un) ?_
  conv => whnf
  refine ⟨?_, fun b hbu => ?_⟩
  · repeat' (first | exact True.intro | refine ⟨_, LeL.refl _, ?_⟩ | refine ⟨_, _, _, LeL.refl _, ?_⟩ | (refine fun (b : Bool) hb => ?_; cases b <;> (first | exact absurd hb (by decide) | exact Bool.noConfusion (show true = false from hb) | exact Bool.noConfusion (show false = true from hb) | skip)) | (refine fun (hl : _ ≤ MAXL) => ?_) | refine And.intro (a := I64 _) ?_ ?_ | refine And.intro (a := _ ≤ 140737488355328) ?_ ?_ | refine ⟨_, ⟨rfl, rfl⟩, ?_⟩ | refine ⟨_, And.intro (a := I64 _) ?_ ⟨rfl, rfl⟩, ?_⟩ | refine ⟨_, _, ⟨rfl, rfl⟩, ?_⟩ | refine ⟨_, (fun _ => ⟨rfl, rfl⟩), ?_⟩ | refine And.intro (a := chkPend _ _ _ _ _ _) ?_ ?_ | refine And.intro (a := chkPast _ _ _ _ _ _ _ _) ?_ ?_ | refine ⟨⟨rfl, rfl⟩, ?_⟩ | refine And.intro (And.intro rfl rfl) ?_ | refine ⟨True.intro, ?_⟩ | refine ⟨_, ⟨_, rfl, ?_, rfl, rfl, rfl⟩, ?_⟩ | refine ⟨_, rfl, ?_, rfl, ?_⟩ | refine ⟨_, (fun _ => rfl), rfl, ?_⟩ | refine ⟨(fun _ => rfl), ?_⟩ | refine ⟨rfl, ?_⟩ | refine Opt.a ?_ | fail)
    all_goals (refine ⟨_, by refine wk_sel [some 0] rfl rfl ?_ ?_ <;> (repeat' (first | exact True.intro | exact rfl | exact Or.inl rfl | exact Or.inr rfl | refine And.intro ?_ ?_ | fail)), ?_⟩; rw [← hun]; simp_all)
  obtain rfl : un = b := hbu.symm
  clear hun
  conv => whnf
  refine join_live [1, 3, 4] (σ := Unit) (fun b => []) (fun _ => [.box [.int .i64 k, .str s, .int .i64 n]]) (fun b => ¬ ((uw = false ∧ s ≠ []) ∨ (un = false ∧ n ≠ 0))) ?_
  conv => whnf
  refine ⟨?_, fun _ h2 => ?_⟩
  · repeat' (first | exact True.intro | refine ⟨_, LeL.refl _, ?_⟩ | refine ⟨_, _, _, LeL.refl _, ?_⟩ | (refine fun (b : Bool) hb => ?_; cases b <;> (first | exact absurd hb (by decide) | exact Bool.noConfusion (show true = false from hb) | exact Bool.noConfusion (show false = true from hb) | skip)) | (refine fun (hl : _ ≤ MAXL) => ?_) | refine And.intro (a := I64 _) ?_ ?_ | refine And.intro (a := _ ≤ 140737488355328) ?_ ?_ | refine ⟨_, ⟨rfl, rfl⟩, ?_⟩ | refine ⟨_, And.intro (a := I64 _) ?_ ⟨rfl, rfl⟩, ?_⟩ | refine ⟨_, _, ⟨rfl, rfl⟩, ?_⟩ | refine ⟨_, (fun _ => ⟨rfl, rfl⟩), ?_⟩ | refine And.intro (a := chkPend _ _ _ _ _ _) ?_ ?_ | refine And.intro (a := chkPast _ _ _ _ _ _ _ _) ?_ ?_ | refine ⟨⟨rfl, rfl⟩, ?_⟩ | refine And.intro (And.intro rfl rfl) ?_ | refine ⟨True.intro, ?_⟩ | refine ⟨_, ⟨_, rfl, ?_, rfl, rfl, rfl⟩, ?_⟩ | refine ⟨_, rfl, ?_, rfl, ?_⟩ | refine ⟨_, (fun _ => rfl), rfl, ?_⟩ | refine ⟨(fun _ => rfl), ?_⟩ | refine ⟨rfl, ?_⟩ | refine Opt.a ?_ | fail)
    all_goals (conv => whnf)
    all_goals first
      | (refine ⟨(), (by (refine wk_sel [some 0] rfl rfl ?_ ?_ <;> (repeat' (first | exact True.intro | exact rfl | exact Or.inl rfl | exact Or.inr rfl | refine And.intro ?_ ?_ | fail)))), ?_⟩; simp_all; done)
      | (refine hK _ ?_; rw [if_pos]; simp_all; done)
  simp only [h2, if_false] at hK
  conv => whnf
  refine join_live [1, 3] (σ := Unit) (fun b => []) (fun _ => [.box [.int .i64 k, .str s, .int .i64 n]]) (fun b => ¬ (un = true ∧ (n < 1 ∨ 1000 < n))) ?_
  conv => whnf
  refine ⟨?_, fun _ h3 => ?_⟩
  · repeat' (first | exact True.intro | refine ⟨_, LeL.refl _, ?_⟩ | refine ⟨_, _, _, LeL.refl _, ?_⟩ | (refine fun (b : Bool) hb => ?_; cases b <;> (first | exact absurd hb (by decide) | exact Bool.noConfusion (show true = false from hb) | exact Bool.noConfusion (show false = true from hb) | skip)) | (refine fun (hl : _ ≤ MAXL) => ?_) | refine And.intro (a := I64 _) ?_ ?_ | refine And.intro (a := _ ≤ 140737488355328) ?_ ?_ | refine ⟨_, ⟨rfl, rfl⟩, ?_⟩ | refine ⟨_, And.intro (a := I64 _) ?_ ⟨rfl, rfl⟩, ?_⟩ | refine ⟨_, _, ⟨rfl, rfl⟩, ?_⟩ | refine ⟨_, (fun _ => ⟨rfl, rfl⟩), ?_⟩ | refine And.intro (a := chkPend _ _ _ _ _ _) ?_ ?_ | refine And.intro (a := chkPast _ _ _ _ _ _ _ _) ?_ ?_ | refine ⟨⟨rfl, rfl⟩, ?_⟩ | refine And.intro (And.intro rfl rfl) ?_ | refine ⟨True.intro, ?_⟩ | refine ⟨_, ⟨_, rfl, ?_, rfl, rfl, rfl⟩, ?_⟩ | refine ⟨_, rfl, ?_, rfl, ?_⟩ | refine ⟨_, (fun _ => rfl), rfl, ?_⟩ | refine ⟨(fun _ => rfl), ?_⟩ | refine ⟨rfl, ?_⟩ | refine Opt.a ?_ | fail)
    all_goals (conv => whnf)
    all_goals first
      | (refine ⟨(), (by (refine wk_sel [some 0] rfl rfl ?_ ?_ <;> (repeat' (first | exact True.intro | exact rfl | exact Or.inl rfl | exact Or.inr rfl | refine And.intro ?_ ?_ | fail)))), ?_⟩; simp_all; done)
      | (refine hK _ ?_; rw [if_pos]; simp_all; done)
  simp only [h3, if_false] at hK
  repeat' (first | exact True.intro | refine ⟨_, LeL.refl _, ?_⟩ | refine ⟨_, _, _, LeL.refl _, ?_⟩ | (refine fun (b : Bool) hb => ?_; cases b <;> (first | exact absurd hb (by decide) | exact Bool.noConfusion (show true = false from hb) | exact Bool.noConfusion (show false = true from hb) | skip)) | (refine fun (hl : _ ≤ MAXL) => ?_) | refine And.intro (a := I64 _) ?_ ?_ | refine And.intro (a := _ ≤ 140737488355328) ?_ ?_ | refine ⟨_, ⟨rfl, rfl⟩, ?_⟩ | refine ⟨_, And.intro (a := I64 _) ?_ ⟨rfl, rfl⟩, ?_⟩ | refine ⟨_, _, ⟨rfl, rfl⟩, ?_⟩ | refine ⟨_, (fun _ => ⟨rfl, rfl⟩), ?_⟩ | refine And.intro (a := chkPend _ _ _ _ _ _) ?_ ?_ | refine And.intro (a := chkPast _ _ _ _ _ _ _ _) ?_ ?_ | refine ⟨⟨rfl, rfl⟩, ?_⟩ | refine And.intro (And.intro rfl rfl) ?_ | refine ⟨True.intro, ?_⟩ | refine ⟨_, ⟨_, rfl, ?_, rfl, rfl, rfl⟩, ?_⟩ | refine ⟨_, rfl, ?_, rfl, ?_⟩ | refine ⟨_, (fun _ => rfl), rfl, ?_⟩ | refine ⟨(fun _ => rfl), ?_⟩ | refine ⟨rfl, ?_⟩ | refine Opt.a ?_ | fail)
  all_goals (conv => whnf)
  any_goals first
      | (refine hK _ ?_; rw [if_pos]; simp_all; done)
      | (refine hK _ ?_; rw [if_neg]; simp_all; done)
  refine ⟨s, rfl, ?_⟩
  repeat' (first | exact True.intro | refine ⟨_, LeL.refl _, ?_⟩ | refine ⟨_, _, _, LeL.refl _, ?_⟩ | (refine fun (b : Bool) hb => ?_; cases b <;> (first | exact absurd hb (by decide) | exact Bool.noConfusion (show true = false from hb) | exact Bool.noConfusion (show false = true from hb) | skip)) | (refine fun (hl : _ ≤ MAXL) => ?_) | refine And.intro (a := I64 _) ?_ ?_ | refine And.intro (a := _ ≤ 140737488355328) ?_ ?_ | refine ⟨_, ⟨rfl, rfl⟩, ?_⟩ | refine ⟨_, And.intro (a := I64 _) ?_ ⟨rfl, rfl⟩, ?_⟩ | refine ⟨_, _, ⟨rfl, rfl⟩, ?_⟩ | refine ⟨_, (fun _ => ⟨rfl, rfl⟩), ?_⟩ | refine And.intro (a := chkPend _ _ _ _ _ _) ?_ ?_ | refine And.intro (a := chkPast _ _ _ _ _ _ _ _) ?_ ?_ | refine ⟨⟨rfl, rfl⟩, ?_⟩ | refine And.intro (And.intro rfl rfl) ?_ | refine ⟨True.intro, ?_⟩ | refine ⟨_, ⟨_, rfl, ?_, rfl, rfl, rfl⟩, ?_⟩ | refine ⟨_, rfl, ?_, rfl, ?_⟩ | refine ⟨_, (fun _ => rfl), rfl, ?_⟩ | refine ⟨(fun _ => rfl), ?_⟩ | refine ⟨rfl, ?_⟩ | refine Opt.a ?_ | fail)
  all_goals (conv => whnf)
  any_goals first
      | (refine hK _ ?_; rw [if_pos]; simp_all; done)
      | (refine hK _ ?_; rw [if_neg]; simp_all; done)
  · refine hK _ ?_
    rw [if_neg]
    grind
  · refine hK _ ?_
    rw [if_pos]
    grind
end Gv
namespace Gv
variable [Glob] [Laid]
theorem checkJ_ca : callable Tryz.prog 61 = true := by kernel_rfl
def checkJ_S : Spec := fun args K => ∃ (h : Int) (c : Cmd), args = [.int .i64 h, cmdV c] ∧ K (.int .i64 (checkJoin h c))
noncomputable def checkJ_lib : List (Nat × Spec) := [(31, ccheck_S)]
noncomputable def checkJ_fns : List (Nat × FnI) := []
noncomputable def checkJ_prims : List (Nat × PSpec) := []
theorem checkJ_E : EnvOK ⟨Tryz.prog, tys, checkJ_lib, checkJ_fns, checkJ_prims, [(48, [true, false, true])]⟩ := env_ok mixed0 tys0 (.cons ccheck_ca ccheck_ok .nil) .nil .nil (by kernel_rfl)
set_option maxHeartbeats 4000000 in
theorem checkJ_ok : Pure Tryz.prog 61 checkJ_S := by
  refine pure_by checkJ_E 6 (fi := {fn := Tryz.f61, hooks := [], draws := []}) ⟨Tryz.func61, by kernel_rfl, by kernel_rfl⟩ ?_
  rintro _ K ⟨h, c, rfl, hK⟩
  replace hK : ∀ r, r = .int .i64 (checkJoin h c) → K r := fun r h => h ▸ hK
  obtain ⟨ck, cw, cn⟩ := c
  obtain ⟨q, hq⟩ : ∃ q, checkCmd ⟨ck, cw, cn⟩ = q := ⟨_, rfl⟩
  unfold checkJoin at hK
  rw [hq] at hK
  repeat' (first | exact True.intro | refine ⟨_, LeL.refl _, ?_⟩ | refine ⟨_, _, _, LeL.refl _, ?_⟩ | (refine fun (b : Bool) hb => ?_; cases b <;> (first | exact absurd hb (by decide) | exact Bool.noConfusion (show true = false from hb) | exact Bool.noConfusion (show false = true from hb) | skip)) | (refine fun (hl : _ ≤ MAXL) => ?_) | refine And.intro (a := I64 _) ?_ ?_ | refine And.intro (a := _ ≤ 140737488355328) ?_ ?_ | refine ⟨_, ⟨rfl, rfl⟩, ?_⟩ | refine ⟨_, And.intro (a := I64 _) ?_ ⟨rfl, rfl⟩, ?_⟩ | refine ⟨_, _, ⟨rfl, rfl⟩, ?_⟩ | refine ⟨_, (fun _ => ⟨rfl, rfl⟩), ?_⟩ | refine And.intro (a := chkPend _ _ _ _ _ _) ?_ ?_ | refine And.intro (a := chkPast _ _ _ _ _ _ _ _) ?_ ?_ | refine ⟨⟨rfl, rfl⟩, ?_⟩ | refine And.intro (And.intro rfl rfl) ?_ | refine ⟨True.intro, ?_⟩ | refine ⟨_, ⟨_, rfl, ?_, rfl, rfl, rfl⟩, ?_⟩ | refine ⟨_, rfl, ?_, rfl, ?_⟩ | refine ⟨_, (fun _ => rfl), rfl, ?_⟩ | refine ⟨(fun _ => rfl), ?_⟩ | refine ⟨rfl, ?_⟩ | refine Opt.a ?_ | fail)
  · have h1 : ¬ h < 1 := of_decide_eq_false (by assumption)
    have h2 : ¬ 4 < h := of_decide_eq_false (by assumption)
    have h3 : h = 4 := by
      have h3 : (!decide (h = 4)) = false := by assumption
      simpa using h3
    refine ⟨ck, cw, cn, rfl, ?_⟩
    rw [hq]
    repeat' (first | exact True.intro | refine ⟨_, LeL.refl _, ?_⟩ | refine ⟨_, _, _, LeL.refl _, ?_⟩ | (refine fun (b : Bool) hb => ?_; cases b <;> (first | exact absurd hb (by decide) | exact Bool.noConfusion (show true = false from hb) | exact Bool.noConfusion (show false = true from hb) | skip)) | (refine fun (hl : _ ≤ MAXL) => ?_) | refine And.intro (a := I64 _) ?_ ?_ | refine And.intro (a := _ ≤ 140737488355328) ?_ ?_ | refine ⟨_, ⟨rfl, rfl⟩, ?_⟩ | refine ⟨_, And.intro (a := I64 _) ?_ ⟨rfl, rfl⟩, ?_⟩ | refine ⟨_, _, ⟨rfl, rfl⟩, ?_⟩ | refine ⟨_, (fun _ => ⟨rfl, rfl⟩), ?_⟩ | refine And.intro (a := chkPend _ _ _ _ _ _) ?_ ?_ | refine And.intro (a := chkPast _ _ _ _ _ _ _ _) ?_ ?_ | refine ⟨⟨rfl, rfl⟩, ?_⟩ | refine And.intro (And.intro rfl rfl) ?_ | refine ⟨True.intro, ?_⟩ | refine ⟨_, ⟨_, rfl, ?_, rfl, rfl, rfl⟩, ?_⟩ | refine ⟨_, rfl, ?_, rfl, ?_⟩ | refine ⟨_, (fun _ => rfl), rfl, ?_⟩ | refine ⟨(fun _ => rfl), ?_⟩ | refine ⟨rfl, ?_⟩ | refine Opt.a ?_ | fail)
    refine hK _ ?_
    rw [if_neg (by omega), if_neg (by omega)]
  · have h1 : ¬ h < 1 := of_decide_eq_false (by assumption)
    have h2 : ¬ 4 < h := of_decide_eq_false (by assumption)
    have h3 : ¬ h = 4 := by
      have h3 : (!decide (h = 4)) = true := by assumption
      simpa using h3
    have hz : (⟨ck, cw, cn⟩ : Cmd) = zCmd := by
      unfold zCmd
      grind
    conv => whnf
    refine hK _ ?_
    rw [if_neg (by omega), if_pos h3, if_neg (fun e => e hz)]
  · have h1 : ¬ h < 1 := of_decide_eq_false (by assumption)
    have h2 : ¬ 4 < h := of_decide_eq_false (by assumption)
    have h3 : ¬ h = 4 := by
      have h3 : (!decide (h = 4)) = true := by assumption
      simpa using h3
    have hz : (⟨ck, cw, cn⟩ : Cmd) ≠ zCmd := by
      unfold zCmd
      grind
    conv => whnf
    refine hK _ ?_
    rw [if_neg (by omega), if_pos h3, if_pos hz]
  · have h2 : 4 < h := of_decide_eq_true (by assumption)
    conv => whnf
    refine hK _ ?_
    rw [if_pos (by omega)]
  · have h2 : h < 1 := of_decide_eq_true (by assumption)
    conv => whnf
    refine hK _ ?_
    rw [if_pos (by omega)]
end Gv
namespace Gv
variable [Glob] [Laid]
theorem containsB_ca : callable Tryz.prog 180 = true := by kernel_rfl
def containsB_S : Spec := fun args K => ∃ (l : List UInt8) (c : UInt8), args = [.sl byteV l, byteV c] ∧ K (.bool (l.contains c))
noncomputable def containsB_lib : List (Nat × Spec) := []
noncomputable def containsB_fns : List (Nat × FnI) := [(249, {fn := Tryz.f249, hooks := [], draws := []})]
noncomputable def containsB_prims : List (Nat × PSpec) := []
theorem containsB_E : EnvOK ⟨Tryz.prog, tys, containsB_lib, containsB_fns, containsB_prims, []⟩ := env_ok mixed0 tys0 .nil (.cons (by kernel_rfl) ⟨Tryz.func249, by kernel_rfl, by kernel_rfl⟩ .nil) .nil rfl
set_option maxHeartbeats 4000000 in
theorem containsB_ok : Pure Tryz.prog 180 containsB_S := by
  refine pure_by containsB_E 6 (fi := {fn := Tryz.f180, hooks := [], draws := []}) ⟨Tryz.func180, by kernel_rfl, by kernel_rfl⟩ ?_
  rintro _ K ⟨l, c, rfl, hK⟩
  replace hK : ∀ r, r = .bool (l.contains c) → K r := fun r h => h ▸ hK
  refine fun (hl : _ ≤ MAXL) => ?_
  conv => whnf
  refine loop_live [0, 1, 7] (σ := Nat) (fun i => [(8, .int .i64 i)]) (fun i => []) (fun i => i ≤ l.length ∧ c ∉ l.take i) (fun i => l.length - i) 0 ?_
  conv => whnf
  refine ⟨(by (refine wk_sel [] rfl rfl ?_ ?_ <;> (repeat' (first | exact True.intro | exact rfl | exact Or.inl rfl | exact Or.inr rfl | refine And.intro ?_ ?_ | fail)))), ⟨Nat.zero_le _, by simp⟩, fun i hi => ?_⟩
  obtain ⟨hi, hc⟩ := hi
  repeat' (first | exact True.intro | refine ⟨_, LeL.refl _, ?_⟩ | refine ⟨_, _, _, LeL.refl _, ?_⟩ | (refine fun (b : Bool) hb => ?_; cases b <;> (first | exact absurd hb (by decide) | exact Bool.noConfusion (show true = false from hb) | exact Bool.noConfusion (show false = true from hb) | skip)) | (refine fun (hl : _ ≤ MAXL) => ?_) | refine And.intro (a := I64 _) ?_ ?_ | refine And.intro (a := _ ≤ 140737488355328) ?_ ?_ | refine ⟨_, ⟨rfl, rfl⟩, ?_⟩ | refine ⟨_, And.intro (a := I64 _) ?_ ⟨rfl, rfl⟩, ?_⟩ | refine ⟨_, _, ⟨rfl, rfl⟩, ?_⟩ | refine ⟨_, (fun _ => ⟨rfl, rfl⟩), ?_⟩ | refine And.intro (a := chkPend _ _ _ _ _ _) ?_ ?_ | refine And.intro (a := chkPast _ _ _ _ _ _ _ _) ?_ ?_ | refine ⟨⟨rfl, rfl⟩, ?_⟩ | refine And.intro (And.intro rfl rfl) ?_ | refine ⟨True.intro, ?_⟩ | refine ⟨_, ⟨_, rfl, ?_, rfl, rfl, rfl⟩, ?_⟩ | refine ⟨_, rfl, ?_, rfl, ?_⟩ | refine ⟨_, (fun _ => rfl), rfl, ?_⟩ | refine ⟨(fun _ => rfl), ?_⟩ | refine ⟨rfl, ?_⟩ | refine Opt.a ?_ | fail)
  · refine hK _ ?_
    have e : l.take i = l := List.take_of_length_le (by grind)
    rw [e] at hc
    simp [hc]
  · grind
  · (first | omega | (unfold I64; omega) | (simp only [List.length_append, List.length_map, List.length_cons, List.length_nil, Nat.mul_one, Int.ofNat_eq_natCast] at *; omega) | (dsimp only at *; omega) | (unfold I64; dsimp only at *; omega) | (unfold I64; grind) | grind)
  · have hi2 : i < l.length := by grind
    refine ⟨i + 1, (by (refine wk_sel [] rfl rfl ?_ ?_ <;> (repeat' (first | exact True.intro | exact rfl | exact Or.inl rfl | exact Or.inr rfl | refine And.intro ?_ ?_ | fail)))), ⟨by grind, ?_⟩, by grind⟩
    rw [List.take_succ_eq_append_getElem hi2]
    simp only [List.mem_append, List.mem_singleton, not_or]
    refine ⟨hc, fun e => ?_⟩
    subst e
    simp at *
  · have hi2 : i < l.length := by grind
    refine hK _ ?_
    have e : c = l[i] := by
      apply UInt8.toNat_inj.1
      grind
    have h1 : l.contains c = true := by
      rw [e]
      simp
    have h2 : decide ((0 : Int) ≤ (i : Int)) = true := by simp
    rw [h1, h2]
end Gv
namespace Gv
variable [Glob] [Laid]
theorem index1_ca : callable Tryz.prog 266 = true := by kernel_rfl
def index1_S : Spec := fun args K => ∃ (l : List UInt8), args = [.sl byteV l, .sl byteV [10]] ∧ K (.int .i64 (idxB l 10))
set_option maxHeartbeats 4000000 in
theorem index1_ok : Pure Tryz.prog 266 index1_S := by
  refine pure_look fun w m args us K hm hg hl hv hT => ?_
  obtain ⟨l, rfl, hK⟩ := hT
  obtain ⟨a, b, rfl, ha, hb⟩ := args2 hl hv
  obtain ⟨p, c, rfl, hp, hlc, hc, hx⟩ := bytes_open ha hm
  obtain ⟨p2, c2, rfl, hp2, hlc2, hc2, hx2⟩ := bytes_open hb hm
  refine ⟨_, _, hK, .int, ?_⟩
  match p2, hp2, hx2 with
  | none, hp2, _ => exact absurd (hp2 rfl).1 (by simp)
  | some ⟨b2, o2, sp2⟩, _, hx2 =>
    obtain ⟨h1, h2⟩ := hx2 b2 o2 sp2 rfl
    have hs : sp2 = none := h1.resolve_right (by simp)
    subst hs
    have h3 := h2 0 (by simp)
    have h4 : w.cell? ⟨b2, o2, none⟩ = some (.int .u8 10) := by simpa [Addr.add, numsOf] using h3
    match p, hp, hx with
    | none, hp, _ =>
      obtain ⟨rfl, rfl⟩ := hp rfl
      exact (Tryz.bytes_Index_one_nil b2 o2 c2 10 w h4).mono fun e w' ⟨he, hw⟩ => ⟨by rw [he]; rfl, by subst hw; exact Bel.refl _ _⟩
    | some ⟨b1, o1, sp1⟩, _, hx =>
      refine (Tryz.bytes_Index_one_at ⟨b1, o1, sp1⟩ l.length c b2 o2 c2 (numsOf l) 10 w (numsOf_length l) (fun i hi => (hx b1 o1 sp1 rfl).2 i hi) h4).mono fun e w' ⟨he, hw⟩ => ⟨by rw [he, bytesOf_nums]; rfl, by subst hw; exact Bel.refl _ _⟩
end Gv
namespace Gv
variable [Glob] [Laid]
theorem cut_idx (l : Bs) : (cutNl l).2.2 = decide (0 ≤ idxB l 10) ∧ (0 ≤ idxB l 10 → idxB l 10 + 1 ≤ l.length ∧ (cutNl l).1 = l.take (idxB l 10).toNat ∧ (cutNl l).2.1 = l.drop ((idxB l 10).toNat + 1)) ∧ (idxB l 10 < 0 → cutNl l = (l, [], false)) := by
  unfold idxB
  rcases nl_cases l with h | ⟨a, r, rfl, ha⟩
  · have e : Lib.indexByte l 10 = -1 := by
      induction l with
      | nil => rfl
      | cons c l ih =>
        simp only [List.mem_cons, not_or] at h
        unfold Lib.indexByte
        rw [if_neg (by simpa using fun e => h.1 (e.symm)), ih h.2]
        rfl
    rw [e, cutNl_no h]
    refine ⟨rfl, fun h => by omega, fun _ => rfl⟩
  · have e : Lib.indexByte (a ++ 10 :: r) 10 = a.length := by
      induction a with
      | nil => rfl
      | cons c a ih =>
        simp only [List.mem_cons, not_or] at ha
        show Lib.indexByte (c :: (a ++ 10 :: r)) 10 = _
        unfold Lib.indexByte
        rw [if_neg (by simpa using fun e => ha.1 (e.symm)), ih ha.2, if_neg (by simp <;> omega)]
        simp
    rw [e, cutNl_nl ha]
    refine ⟨by simp, fun _ => ⟨by simp <;> omega, by simp, ?_⟩, fun h => by omega⟩
    rw [Int.toNat_natCast, show a.length + 1 = (a ++ [10]).length by simp, show a ++ 10 :: r = (a ++ [10]) ++ r by simp, List.drop_left]
theorem cut_ca : callable Tryz.prog 227 = true := by kernel_rfl
def cut_S : Spec := fun args K => ∃ (l : List UInt8), args = [.sl byteV l, .sl byteV [10]] ∧ l.length ≤ 1000000 ∧ K (.tup [.sl byteV (cutNl l).1, .sl byteV (cutNl l).2.1, .bool (cutNl l).2.2])
noncomputable def cut_lib : List (Nat × Spec) := [(266, index1_S)]
noncomputable def cut_fns : List (Nat × FnI) := []
noncomputable def cut_prims : List (Nat × PSpec) := []
theorem cut_E : EnvOK ⟨Tryz.prog, tys, cut_lib, cut_fns, cut_prims, []⟩ := env_ok mixed0 tys0 (.cons index1_ca index1_ok .nil) .nil .nil rfl
set_option maxHeartbeats 4000000 in
theorem cut_ok : Pure Tryz.prog 227 cut_S := by
  refine pure_by cut_E 6 (fi := {fn := Tryz.f227, hooks := [], draws := [(3, [0, 0, 3, 0, 0, 0, 32, 112, 248, 7, 1023, 2047])]}) ⟨Tryz.func227, by kernel_rfl, by kernel_rfl⟩ ?_
  rintro _ K ⟨l, rfl, hz, hK⟩
  replace hK : ∀ r, r = .tup [.sl byteV (cutNl l).1, .sl byteV (cutNl l).2.1, .bool (cutNl l).2.2] → K r := fun r h => h ▸ hK
  obtain ⟨h1, h2, h3⟩ := cut_idx l
  refine ⟨l, rfl, ?_⟩
  repeat' (first | exact True.intro | refine ⟨_, LeL.refl _, ?_⟩ | refine ⟨_, _, _, LeL.refl _, ?_⟩ | (refine fun (b : Bool) hb => ?_; cases b <;> (first | exact absurd hb (by decide) | exact Bool.noConfusion (show true = false from hb) | exact Bool.noConfusion (show false = true from hb) | skip)) | (refine fun (hl : _ ≤ MAXL) => ?_) | refine And.intro (a := I64 _) ?_ ?_ | refine And.intro (a := _ ≤ 140737488355328) ?_ ?_ | refine ⟨_, ⟨rfl, rfl⟩, ?_⟩ | refine ⟨_, And.intro (a := I64 _) ?_ ⟨rfl, rfl⟩, ?_⟩ | refine ⟨_, _, ⟨rfl, rfl⟩, ?_⟩ | refine ⟨_, (fun _ => ⟨rfl, rfl⟩), ?_⟩ | refine And.intro (a := chkPend _ _ _ _ _ _) ?_ ?_ | refine And.intro (a := chkPast _ _ _ _ _ _ _ _) ?_ ?_ | refine ⟨⟨rfl, rfl⟩, ?_⟩ | refine And.intro (And.intro rfl rfl) ?_ | refine ⟨True.intro, ?_⟩ | refine ⟨_, ⟨_, rfl, ?_, rfl, rfl, rfl⟩, ?_⟩ | refine ⟨_, rfl, ?_, rfl, ?_⟩ | refine ⟨_, (fun _ => rfl), rfl, ?_⟩ | refine ⟨(fun _ => rfl), ?_⟩ | refine ⟨rfl, ?_⟩ | refine Opt.a ?_ | refine ⟨UInt8, byteV, ?_⟩ | fail)
  · refine hK _ ?_
    rw [h3 (by grind)]
  have hi : 0 ≤ idxB l 10 := by grind
  obtain ⟨g1, g2, g3⟩ := h2 hi
  refine ⟨_, ⟨fun _ => rfl, (idxB l 10).toNat, by omega, by omega, rfl, rfl⟩, ?_⟩
  repeat' (first | exact True.intro | refine ⟨_, LeL.refl _, ?_⟩ | refine ⟨_, _, _, LeL.refl _, ?_⟩ | (refine fun (b : Bool) hb => ?_; cases b <;> (first | exact absurd hb (by decide) | exact Bool.noConfusion (show true = false from hb) | exact Bool.noConfusion (show false = true from hb) | skip)) | (refine fun (hl : _ ≤ MAXL) => ?_) | refine And.intro (a := I64 _) ?_ ?_ | refine And.intro (a := _ ≤ 140737488355328) ?_ ?_ | refine ⟨_, ⟨rfl, rfl⟩, ?_⟩ | refine ⟨_, And.intro (a := I64 _) ?_ ⟨rfl, rfl⟩, ?_⟩ | refine ⟨_, _, ⟨rfl, rfl⟩, ?_⟩ | refine ⟨_, (fun _ => ⟨rfl, rfl⟩), ?_⟩ | refine And.intro (a := chkPend _ _ _ _ _ _) ?_ ?_ | refine And.intro (a := chkPast _ _ _ _ _ _ _ _) ?_ ?_ | refine ⟨⟨rfl, rfl⟩, ?_⟩ | refine And.intro (And.intro rfl rfl) ?_ | refine ⟨True.intro, ?_⟩ | refine ⟨_, ⟨_, rfl, ?_, rfl, rfl, rfl⟩, ?_⟩ | refine ⟨_, rfl, ?_, rfl, ?_⟩ | refine ⟨_, (fun _ => rfl), rfl, ?_⟩ | refine ⟨(fun _ => rfl), ?_⟩ | refine ⟨rfl, ?_⟩ | refine Opt.a ?_ | fail)
  · simp only [List.length_cons, List.length_nil]
    unfold I64
    omega
  refine ⟨_, ⟨fun _ => rfl, (idxB l 10).toNat + 1, ?_, by omega, rfl, rfl⟩, ?_⟩
  · simp only [List.length_cons, List.length_nil]
    omega
  repeat' (first | exact True.intro | refine ⟨_, LeL.refl _, ?_⟩ | refine ⟨_, _, _, LeL.refl _, ?_⟩ | (refine fun (b : Bool) hb => ?_; cases b <;> (first | exact absurd hb (by decide) | exact Bool.noConfusion (show true = false from hb) | exact Bool.noConfusion (show false = true from hb) | skip)) | (refine fun (hl : _ ≤ MAXL) => ?_) | refine And.intro (a := I64 _) ?_ ?_ | refine And.intro (a := _ ≤ 140737488355328) ?_ ?_ | refine ⟨_, ⟨rfl, rfl⟩, ?_⟩ | refine ⟨_, And.intro (a := I64 _) ?_ ⟨rfl, rfl⟩, ?_⟩ | refine ⟨_, _, ⟨rfl, rfl⟩, ?_⟩ | refine ⟨_, (fun _ => ⟨rfl, rfl⟩), ?_⟩ | refine And.intro (a := chkPend _ _ _ _ _ _) ?_ ?_ | refine And.intro (a := chkPast _ _ _ _ _ _ _ _) ?_ ?_ | refine ⟨⟨rfl, rfl⟩, ?_⟩ | refine And.intro (And.intro rfl rfl) ?_ | refine ⟨True.intro, ?_⟩ | refine ⟨_, ⟨_, rfl, ?_, rfl, rfl, rfl⟩, ?_⟩ | refine ⟨_, rfl, ?_, rfl, ?_⟩ | refine ⟨_, (fun _ => rfl), rfl, ?_⟩ | refine ⟨(fun _ => rfl), ?_⟩ | refine ⟨rfl, ?_⟩ | refine Opt.a ?_ | fail)
  refine hK _ ?_
  rw [g2, g3, h1, decide_eq_true hi]
end Gv
namespace Gv
variable [Glob] [Laid]
theorem of_ca : callable Tryz.prog 158 = true := by kernel_rfl
def of_S : Spec := fun args K => ∃ (b : Bs), args = [.sl byteV b] ∧ b.length ≤ 1000000 ∧ K (.sl strV (linesOf b))
noncomputable def of_lib : List (Nat × Spec) := [(227, cut_S)]
noncomputable def of_fns : List (Nat × FnI) := []
noncomputable def of_prims : List (Nat × PSpec) := []
theorem of_E : EnvOK ⟨Tryz.prog, tys, of_lib, of_fns, of_prims, []⟩ := env_ok mixed0 tys0 (.cons cut_ca cut_ok .nil) .nil .nil rfl
set_option maxHeartbeats 4000000 in
theorem of_ok : Pure Tryz.prog 158 of_S := by
  refine pure_by of_E 6 (fi := {fn := Tryz.f158, hooks := [], draws := []}) ⟨Tryz.func158, by kernel_rfl, by kernel_rfl⟩ ?_
  rintro _ K ⟨b0, rfl, hz, hK⟩
  conv => whnf
  refine loop_live [] (σ := List Bs × Bs) (fun s => [(3, .own 0), (0, .sl byteV s.2)]) (fun s => [.row 1 (s.1.map strV)]) (fun s => s.1 ++ linesOf s.2 = linesOf b0 ∧ s.2.length + s.1.length ≤ 1000000) (fun s => s.2.length) ([], b0) ?_
  conv => whnf
  refine ⟨(by (refine wk_sel [none] rfl rfl ?_ ?_ <;> (repeat' (first | exact True.intro | exact rfl | exact Or.inl rfl | exact Or.inr rfl | refine And.intro ?_ ?_ | fail)))), ⟨rfl, hz⟩, fun s hs => ?_⟩
  obtain ⟨l, b⟩ := s
  obtain ⟨h1, h2⟩ := hs
  replace h1 : l ++ linesOf b = linesOf b0 := h1
  replace h2 : b.length + l.length ≤ 1000000 := h2
  repeat' (first | exact True.intro | refine ⟨_, LeL.refl _, ?_⟩ | refine ⟨_, _, _, LeL.refl _, ?_⟩ | (refine fun (b : Bool) hb => ?_; cases b <;> (first | exact absurd hb (by decide) | exact Bool.noConfusion (show true = false from hb) | exact Bool.noConfusion (show false = true from hb) | skip)) | (refine fun (hl : _ ≤ MAXL) => ?_) | refine And.intro (a := I64 _) ?_ ?_ | refine And.intro (a := _ ≤ 140737488355328) ?_ ?_ | refine ⟨_, ⟨rfl, rfl⟩, ?_⟩ | refine ⟨_, And.intro (a := I64 _) ?_ ⟨rfl, rfl⟩, ?_⟩ | refine ⟨_, _, ⟨rfl, rfl⟩, ?_⟩ | refine ⟨_, (fun _ => ⟨rfl, rfl⟩), ?_⟩ | refine And.intro (a := chkPend _ _ _ _ _ _) ?_ ?_ | refine And.intro (a := chkPast _ _ _ _ _ _ _ _) ?_ ?_ | refine ⟨⟨rfl, rfl⟩, ?_⟩ | refine And.intro (And.intro rfl rfl) ?_ | refine ⟨True.intro, ?_⟩ | refine ⟨_, ⟨_, rfl, ?_, rfl, rfl, rfl⟩, ?_⟩ | refine ⟨_, rfl, ?_, rfl, ?_⟩ | refine ⟨_, (fun _ => rfl), rfl, ?_⟩ | refine ⟨(fun _ => rfl), ?_⟩ | refine ⟨rfl, ?_⟩ | refine Opt.a ?_ | fail)
  · have : b = [] := by
      have h : decide (0 < (b.length : Int)) = false := by assumption
      cases b with
      | nil => rfl
      | cons c b => simp at h <;> omega
    subst this
    rw [linesOf_nil, List.append_nil] at h1
    rw [h1]
    exact hK
  have hb0 : b ≠ [] := by
    intro e
    subst e
    have h : decide ((0 : Int) < (([] : Bs).length : Int)) = true := by assumption
    simp at h
  have g1 := linesOf_cut hb0
  have g2 := cut_len hb0
  refine ⟨UInt8, byteV, [10], LeL.refl _, ?_⟩
  refine ⟨b, rfl, by omega, ?_⟩
  repeat' (first | exact True.intro | refine ⟨_, LeL.refl _, ?_⟩ | refine ⟨_, _, _, LeL.refl _, ?_⟩ | (refine fun (b : Bool) hb => ?_; cases b <;> (first | exact absurd hb (by decide) | exact Bool.noConfusion (show true = false from hb) | exact Bool.noConfusion (show false = true from hb) | skip)) | (refine fun (hl : _ ≤ MAXL) => ?_) | refine And.intro (a := I64 _) ?_ ?_ | refine And.intro (a := _ ≤ 140737488355328) ?_ ?_ | refine ⟨_, ⟨rfl, rfl⟩, ?_⟩ | refine ⟨_, And.intro (a := I64 _) ?_ ⟨rfl, rfl⟩, ?_⟩ | refine ⟨_, _, ⟨rfl, rfl⟩, ?_⟩ | refine ⟨_, (fun _ => ⟨rfl, rfl⟩), ?_⟩ | refine And.intro (a := chkPend _ _ _ _ _ _) ?_ ?_ | refine And.intro (a := chkPast _ _ _ _ _ _ _ _) ?_ ?_ | refine ⟨⟨rfl, rfl⟩, ?_⟩ | refine And.intro (And.intro rfl rfl) ?_ | refine ⟨True.intro, ?_⟩ | refine ⟨_, ⟨_, rfl, ?_, rfl, rfl, rfl⟩, ?_⟩ | refine ⟨_, rfl, ?_, rfl, ?_⟩ | refine ⟨_, (fun _ => rfl), rfl, ?_⟩ | refine ⟨(fun _ => rfl), ?_⟩ | refine ⟨rfl, ?_⟩ | refine Opt.a ?_ | fail)
  · simp only [List.length_map, List.length_cons, List.length_nil]
    have := List.length_pos_iff.2 hb0
    omega
  · refine ⟨(l ++ [(cutNl b).1], (cutNl b).2.1), ?_, ⟨?_, ?_⟩, g2.1⟩
    · refine wk_sel [some 3] rfl rfl ⟨?_, trivial⟩ ?_
      · rw [List.map_append]
        exact rfl
      · (repeat' (first | exact True.intro | exact rfl | exact Or.inl rfl | exact Or.inr rfl | refine And.intro ?_ ?_ | fail))
    · rw [← h1, g1, List.append_assoc]
      rfl
    · simp only [List.length_append, List.length_cons, List.length_nil]
      omega
end Gv
namespace Gv
variable [Glob] [Laid]
theorem linesL_ca : callable Tryz.prog 123 = true := by kernel_rfl
def linesL_S : Spec := fun args K => ∃ (b : Bs), args = [.sl byteV b] ∧ b.length ≤ 1000000 ∧ K (.sl strV (linesOf b))
noncomputable def linesL_lib : List (Nat × Spec) := [(158, of_S)]
noncomputable def linesL_fns : List (Nat × FnI) := []
noncomputable def linesL_prims : List (Nat × PSpec) := []
theorem linesL_E : EnvOK ⟨Tryz.prog, tys, linesL_lib, linesL_fns, linesL_prims, []⟩ := env_ok mixed0 tys0 (.cons of_ca of_ok .nil) .nil .nil rfl
set_option maxHeartbeats 4000000 in
theorem linesL_ok : Pure Tryz.prog 123 linesL_S := by
  refine pure_by linesL_E 6 (fi := {fn := Tryz.f123, hooks := [], draws := []}) ⟨Tryz.func123, by kernel_rfl, by kernel_rfl⟩ ?_
  rintro _ K ⟨b, rfl, hz, hK⟩
  replace hK : ∀ r, r = .sl strV (linesOf b) → K r := fun r h => h ▸ hK
  repeat' (first | exact True.intro | refine ⟨_, LeL.refl _, ?_⟩ | refine ⟨_, _, _, LeL.refl _, ?_⟩ | (refine fun (b : Bool) hb => ?_; cases b <;> (first | exact absurd hb (by decide) | exact Bool.noConfusion (show true = false from hb) | exact Bool.noConfusion (show false = true from hb) | skip)) | (refine fun (hl : _ ≤ MAXL) => ?_) | refine And.intro (a := I64 _) ?_ ?_ | refine And.intro (a := _ ≤ 140737488355328) ?_ ?_ | refine ⟨_, ⟨rfl, rfl⟩, ?_⟩ | refine ⟨_, And.intro (a := I64 _) ?_ ⟨rfl, rfl⟩, ?_⟩ | refine ⟨_, _, ⟨rfl, rfl⟩, ?_⟩ | refine ⟨_, (fun _ => ⟨rfl, rfl⟩), ?_⟩ | refine And.intro (a := chkPend _ _ _ _ _ _) ?_ ?_ | refine And.intro (a := chkPast _ _ _ _ _ _ _ _) ?_ ?_ | refine ⟨⟨rfl, rfl⟩, ?_⟩ | refine And.intro (And.intro rfl rfl) ?_ | refine ⟨True.intro, ?_⟩ | refine ⟨_, ⟨_, rfl, ?_, rfl, rfl, rfl⟩, ?_⟩ | refine ⟨_, rfl, ?_, rfl, ?_⟩ | refine ⟨_, (fun _ => rfl), rfl, ?_⟩ | refine ⟨(fun _ => rfl), ?_⟩ | refine ⟨rfl, ?_⟩ | refine Opt.a ?_ | fail)
  refine ⟨b, rfl, hz, ?_⟩
  repeat' (first | exact True.intro | refine ⟨_, LeL.refl _, ?_⟩ | refine ⟨_, _, _, LeL.refl _, ?_⟩ | (refine fun (b : Bool) hb => ?_; cases b <;> (first | exact absurd hb (by decide) | exact Bool.noConfusion (show true = false from hb) | exact Bool.noConfusion (show false = true from hb) | skip)) | (refine fun (hl : _ ≤ MAXL) => ?_) | refine And.intro (a := I64 _) ?_ ?_ | refine And.intro (a := _ ≤ 140737488355328) ?_ ?_ | refine ⟨_, ⟨rfl, rfl⟩, ?_⟩ | refine ⟨_, And.intro (a := I64 _) ?_ ⟨rfl, rfl⟩, ?_⟩ | refine ⟨_, _, ⟨rfl, rfl⟩, ?_⟩ | refine ⟨_, (fun _ => ⟨rfl, rfl⟩), ?_⟩ | refine And.intro (a := chkPend _ _ _ _ _ _) ?_ ?_ | refine And.intro (a := chkPast _ _ _ _ _ _ _ _) ?_ ?_ | refine ⟨⟨rfl, rfl⟩, ?_⟩ | refine And.intro (And.intro rfl rfl) ?_ | refine ⟨True.intro, ?_⟩ | refine ⟨_, ⟨_, rfl, ?_, rfl, rfl, rfl⟩, ?_⟩ | refine ⟨_, rfl, ?_, rfl, ?_⟩ | refine ⟨_, (fun _ => rfl), rfl, ?_⟩ | refine ⟨(fun _ => rfl), ?_⟩ | refine ⟨rfl, ?_⟩ | refine Opt.a ?_ | fail)
  exact hK _ rfl
end Gv
namespace Gv
variable [Glob] [Laid]
def bestI : Option (Nat × Bs) → Int
  | none => -1
  | some (j, _) => j
theorem mergeJ_ca : callable Tryz.prog 184 = true := by kernel_rfl
def mergeJ_S : Spec := fun args K => ∃ p : List (List Bs), args = [.sl lsV p] ∧ (p.flatten.length ≤ 1000000 ∧ p.length ≤ 1000) ∧ K (.sl strV (mergeB p))
noncomputable def mergeJ_lib : List (Nat × Spec) := []
noncomputable def mergeJ_fns : List (Nat × FnI) := [(251, {fn := Tryz.f251, hooks := [], draws := []})]
noncomputable def mergeJ_prims : List (Nat × PSpec) := []
theorem mergeJ_E : EnvOK ⟨Tryz.prog, tys, mergeJ_lib, mergeJ_fns, mergeJ_prims, []⟩ := env_ok mixed0 tys0 .nil (.cons (by kernel_rfl) ⟨Tryz.func251, by kernel_rfl, by kernel_rfl⟩ .nil) .nil rfl
set_option maxHeartbeats 8000000 in
theorem mergeJ_ok : Pure Tryz.prog 184 mergeJ_S := by
  refine pure_by mergeJ_E 6 (fi := {fn := Tryz.f184, hooks := [2], draws := [(7, [0, 1, 3, 7, 15, 31, 63, 127, 255, 511, 127, 127, 3199, 7295, 15487, 31871, 65535, 131071, 262143]), (12, [0, 0, 0, 0, 0, 24, 56, 120, 248, 504, 1020, 0, 0, 6144, 14336, 30720, 2044, 131071, 262143])]}) ⟨Tryz.func184, by kernel_rfl, by kernel_rfl⟩ ?_
  rintro _ K ⟨p, rfl, ⟨hp1, hp2⟩, hK⟩
  replace hK : ∀ r, r = .sl strV (mergeB p) → K r := fun r h => h ▸ hK
  conv => whnf
  refine join_live [] (σ := Unit) (fun _ => [(0, .own 0)]) (fun _ => [.row 1 (p.map lsV)]) (fun _ => True) ?_
  conv => whnf
  refine ⟨?_, fun _ _ => ?_⟩
  · repeat' (first | exact True.intro | refine ⟨_, LeL.refl _, ?_⟩ | refine ⟨_, _, _, LeL.refl _, ?_⟩ | (refine fun (b : Bool) hb => ?_; cases b <;> (first | exact absurd hb (by decide) | exact Bool.noConfusion (show true = false from hb) | exact Bool.noConfusion (show false = true from hb) | skip)) | (refine fun (hl : _ ≤ MAXL) => ?_) | refine And.intro (a := I64 _) ?_ ?_ | refine And.intro (a := _ ≤ 140737488355328) ?_ ?_ | refine ⟨_, ⟨rfl, rfl⟩, ?_⟩ | refine ⟨_, And.intro (a := I64 _) ?_ ⟨rfl, rfl⟩, ?_⟩ | refine ⟨_, _, ⟨rfl, rfl⟩, ?_⟩ | refine ⟨_, (fun _ => ⟨rfl, rfl⟩), ?_⟩ | refine And.intro (a := chkPend _ _ _ _ _ _) ?_ ?_ | refine And.intro (a := chkPast _ _ _ _ _ _ _ _) ?_ ?_ | refine ⟨⟨rfl, rfl⟩, ?_⟩ | refine And.intro (And.intro rfl rfl) ?_ | refine ⟨True.intro, ?_⟩ | refine ⟨_, ⟨_, rfl, ?_, rfl, rfl, rfl⟩, ?_⟩ | refine ⟨_, rfl, ?_, rfl, ?_⟩ | refine ⟨_, (fun _ => rfl), rfl, ?_⟩ | refine ⟨(fun _ => rfl), ?_⟩ | refine ⟨rfl, ?_⟩ | refine Opt.a ?_ | fail)
    · show (0 + (p.map lsV).length) * 24 ≤ 140737488355328
      rw [List.length_map]
      omega
    · exact ⟨(), (by (refine wk_auto ?_; refine Sel4.mk rfl rfl ?_ ?_ <;> (repeat' (first | exact True.intro | exact rfl | exact Or.inl rfl | exact Or.inr rfl | refine And.intro ?_ ?_ | fail)))), trivial⟩
    · have h : true = true → p = [] := by assumption
      rw [h rfl]
      exact ⟨(), (by (refine wk_auto ?_; refine Sel4.mk rfl rfl ?_ ?_ <;> (repeat' (first | exact True.intro | exact rfl | exact Or.inl rfl | exact Or.inr rfl | refine And.intro ?_ ?_ | fail)))), trivial⟩
  repeat' (first | exact True.intro | refine ⟨_, LeL.refl _, ?_⟩ | refine ⟨_, _, _, LeL.refl _, ?_⟩ | (refine fun (b : Bool) hb => ?_; cases b <;> (first | exact absurd hb (by decide) | exact Bool.noConfusion (show true = false from hb) | exact Bool.noConfusion (show false = true from hb) | skip)) | (refine fun (hl : _ ≤ MAXL) => ?_) | refine And.intro (a := I64 _) ?_ ?_ | refine And.intro (a := _ ≤ 140737488355328) ?_ ?_ | refine ⟨_, ⟨rfl, rfl⟩, ?_⟩ | refine ⟨_, And.intro (a := I64 _) ?_ ⟨rfl, rfl⟩, ?_⟩ | refine ⟨_, _, ⟨rfl, rfl⟩, ?_⟩ | refine ⟨_, (fun _ => ⟨rfl, rfl⟩), ?_⟩ | refine And.intro (a := chkPend _ _ _ _ _ _) ?_ ?_ | refine And.intro (a := chkPast _ _ _ _ _ _ _ _) ?_ ?_ | refine ⟨⟨rfl, rfl⟩, ?_⟩ | refine And.intro (And.intro rfl rfl) ?_ | refine ⟨True.intro, ?_⟩ | refine ⟨_, ⟨_, rfl, ?_, rfl, rfl, rfl⟩, ?_⟩ | refine ⟨_, rfl, ?_, rfl, ?_⟩ | refine ⟨_, (fun _ => rfl), rfl, ?_⟩ | refine ⟨(fun _ => rfl), ?_⟩ | refine ⟨rfl, ?_⟩ | refine Opt.a ?_ | fail)
  conv => whnf
  refine loop_live [0] (σ := List (List Bs) × List Bs) (fun s => [(3, .own 1)]) (fun s => [.row 1 (s.1.map lsV), .row 1 (s.2.map strV)]) (fun s => s.2 ++ mergeB s.1 = mergeB p ∧ s.1.length = p.length ∧ s.2.length + s.1.flatten.length = p.flatten.length) (fun s => s.1.flatten.length) (p, []) ?_
  conv => whnf
  refine ⟨(by (refine wk_auto ?_; refine Sel4.mk rfl rfl ?_ ?_ <;> (repeat' (first | exact True.intro | exact rfl | exact Or.inl rfl | exact Or.inr rfl | refine And.intro ?_ ?_ | fail)))), ⟨rfl, rfl, by simp⟩, fun s hs => ?_⟩
  obtain ⟨q, out⟩ := s
  obtain ⟨h1, h2, h3⟩ := hs
  dsimp only at h1 h2 h3
  repeat' (first | exact True.intro | refine ⟨_, LeL.refl _, ?_⟩ | refine ⟨_, _, _, LeL.refl _, ?_⟩ | (refine fun (b : Bool) hb => ?_; cases b <;> (first | exact absurd hb (by decide) | exact Bool.noConfusion (show true = false from hb) | exact Bool.noConfusion (show false = true from hb) | skip)) | (refine fun (hl : _ ≤ MAXL) => ?_) | refine And.intro (a := I64 _) ?_ ?_ | refine And.intro (a := _ ≤ 140737488355328) ?_ ?_ | refine ⟨_, ⟨rfl, rfl⟩, ?_⟩ | refine ⟨_, And.intro (a := I64 _) ?_ ⟨rfl, rfl⟩, ?_⟩ | refine ⟨_, _, ⟨rfl, rfl⟩, ?_⟩ | refine ⟨_, (fun _ => ⟨rfl, rfl⟩), ?_⟩ | refine And.intro (a := chkPend _ _ _ _ _ _) ?_ ?_ | refine And.intro (a := chkPast _ _ _ _ _ _ _ _) ?_ ?_ | refine ⟨⟨rfl, rfl⟩, ?_⟩ | refine And.intro (And.intro rfl rfl) ?_ | refine ⟨True.intro, ?_⟩ | refine ⟨_, ⟨_, rfl, ?_, rfl, rfl, rfl⟩, ?_⟩ | refine ⟨_, rfl, ?_, rfl, ?_⟩ | refine ⟨_, (fun _ => rfl), rfl, ?_⟩ | refine ⟨(fun _ => rfl), ?_⟩ | refine ⟨rfl, ?_⟩ | refine Opt.a ?_ | fail)
  conv => whnf
  refine loop_live [0, 3, 9, 10] (σ := Nat) (fun i => [(11, .int .i64 i), (4, .int .i64 (bestI (best q i)))]) (fun s => [.row 1 (q.map lsV), .row 1 (out.map strV)]) (fun i => i ≤ q.length) (fun i => q.length - i) 0 ?_
  conv => whnf
  refine ⟨(by (refine wk_auto ?_; refine Sel4.mk rfl rfl ?_ ?_ <;> (repeat' (first | exact True.intro | exact rfl | exact Or.inl rfl | exact Or.inr rfl | refine And.intro ?_ ?_ | fail)))), Nat.zero_le _, fun i hi => ?_⟩
  repeat' (first | exact True.intro | refine ⟨_, LeL.refl _, ?_⟩ | refine ⟨_, _, _, LeL.refl _, ?_⟩ | (refine fun (b : Bool) hb => ?_; cases b <;> (first | exact absurd hb (by decide) | exact Bool.noConfusion (show true = false from hb) | exact Bool.noConfusion (show false = true from hb) | skip)) | (refine fun (hl : _ ≤ MAXL) => ?_) | refine And.intro (a := I64 _) ?_ ?_ | refine And.intro (a := _ ≤ 140737488355328) ?_ ?_ | refine ⟨_, ⟨rfl, rfl⟩, ?_⟩ | refine ⟨_, And.intro (a := I64 _) ?_ ⟨rfl, rfl⟩, ?_⟩ | refine ⟨_, _, ⟨rfl, rfl⟩, ?_⟩ | refine ⟨_, (fun _ => ⟨rfl, rfl⟩), ?_⟩ | refine And.intro (a := chkPend _ _ _ _ _ _) ?_ ?_ | refine And.intro (a := chkPast _ _ _ _ _ _ _ _) ?_ ?_ | refine ⟨⟨rfl, rfl⟩, ?_⟩ | refine And.intro (And.intro rfl rfl) ?_ | refine ⟨True.intro, ?_⟩ | refine ⟨_, ⟨_, rfl, ?_, rfl, rfl, rfl⟩, ?_⟩ | refine ⟨_, rfl, ?_, rfl, ?_⟩ | refine ⟨_, (fun _ => rfl), rfl, ?_⟩ | refine ⟨(fun _ => rfl), ?_⟩ | refine ⟨rfl, ?_⟩ | refine Opt.a ?_ | fail)
  · -- the least one goes
    have hge : ¬ (i : Int) < ((q.map lsV).length : Int) := of_decide_eq_false (by assumption)
    rw [List.length_map] at hge
    have ei : i = q.length := by omega
    have hb : ¬ bestI (best q i) < 0 := of_decide_eq_false (by assumption)
    obtain ⟨j, s, hbt⟩ : ∃ j s, best q i = some (j, s) := by
      cases hq : best q i with
      | none => rw [hq] at hb; exact absurd (show (-1 : Int) < 0 by decide) hb
      | some x => exact ⟨x.1, x.2, rfl⟩
    have hbt2 : best q q.length = some (j, s) := by rw [← ei]; exact hbt
    obtain ⟨hji, ⟨r, hjr⟩, -⟩ := best_some hbt2
    have hqj : q[j] = s :: r := by rw [List.getD_eq_getElem?_getD, List.getElem?_eq_getElem hji] at hjr; exact hjr
    have hgj : (q.map lsV)[j]? = some (lsV q[j]) := by rw [List.getElem?_map, List.getElem?_eq_getElem hji]; rfl
    have hpj : 0 < q[j].length := by rw [hqj]; exact Nat.succ_pos _
    have hj0 : ∀ h : 0 < q[j].length, q[j][0] = s := fun h => by simp [hqj]
    have hms := mergeB_step hbt2
    have hfl := (flat_part hjr).length_eq
    rw [List.length_cons] at hfl
    conv => whnf
    refine ⟨_, ⟨rfl, j, by rw [hbt]; rfl, by simpa using hji, ⟨rfl, rfl⟩⟩, ?_⟩
    repeat' (first | exact True.intro | refine ⟨_, LeL.refl _, ?_⟩ | refine ⟨_, _, _, LeL.refl _, ?_⟩ | (refine fun (b : Bool) hb => ?_; cases b <;> (first | exact absurd hb (by decide) | exact Bool.noConfusion (show true = false from hb) | exact Bool.noConfusion (show false = true from hb) | skip)) | (refine fun (hl : _ ≤ MAXL) => ?_) | refine And.intro (a := I64 _) ?_ ?_ | refine And.intro (a := _ ≤ 140737488355328) ?_ ?_ | refine ⟨_, ⟨rfl, rfl⟩, ?_⟩ | refine ⟨_, And.intro (a := I64 _) ?_ ⟨rfl, rfl⟩, ?_⟩ | refine ⟨_, _, ⟨rfl, rfl⟩, ?_⟩ | refine ⟨_, (fun _ => ⟨rfl, rfl⟩), ?_⟩ | refine And.intro (a := chkPend _ _ _ _ _ _) ?_ ?_ | refine And.intro (a := chkPast _ _ _ _ _ _ _ _) ?_ ?_ | refine ⟨⟨rfl, rfl⟩, ?_⟩ | refine And.intro (And.intro rfl rfl) ?_ | refine ⟨True.intro, ?_⟩ | refine ⟨_, ⟨_, rfl, ?_, rfl, rfl, rfl⟩, ?_⟩ | refine ⟨_, rfl, ?_, rfl, ?_⟩ | refine ⟨_, (fun _ => rfl), rfl, ?_⟩ | refine ⟨(fun _ => rfl), ?_⟩ | refine ⟨rfl, ?_⟩ | refine Opt.a ?_ | fail)
    conv => whnf
    refine ⟨_, ⟨_, hgj, ⟨rfl, rfl⟩⟩, ?_⟩
    repeat' (first | exact True.intro | refine ⟨_, LeL.refl _, ?_⟩ | refine ⟨_, _, _, LeL.refl _, ?_⟩ | (refine fun (b : Bool) hb => ?_; cases b <;> (first | exact absurd hb (by decide) | exact Bool.noConfusion (show true = false from hb) | exact Bool.noConfusion (show false = true from hb) | skip)) | (refine fun (hl : _ ≤ MAXL) => ?_) | refine And.intro (a := I64 _) ?_ ?_ | refine And.intro (a := _ ≤ 140737488355328) ?_ ?_ | refine ⟨_, ⟨rfl, rfl⟩, ?_⟩ | refine ⟨_, And.intro (a := I64 _) ?_ ⟨rfl, rfl⟩, ?_⟩ | refine ⟨_, _, ⟨rfl, rfl⟩, ?_⟩ | refine ⟨_, (fun _ => ⟨rfl, rfl⟩), ?_⟩ | refine And.intro (a := chkPend _ _ _ _ _ _) ?_ ?_ | refine And.intro (a := chkPast _ _ _ _ _ _ _ _) ?_ ?_ | refine ⟨⟨rfl, rfl⟩, ?_⟩ | refine And.intro (And.intro rfl rfl) ?_ | refine ⟨True.intro, ?_⟩ | refine ⟨_, ⟨_, rfl, ?_, rfl, rfl, rfl⟩, ?_⟩ | refine ⟨_, rfl, ?_, rfl, ?_⟩ | refine ⟨_, (fun _ => rfl), rfl, ?_⟩ | refine ⟨(fun _ => rfl), ?_⟩ | refine ⟨rfl, ?_⟩ | refine Opt.a ?_ | fail)
    · exact hpj
    refine ⟨_, ⟨Bs, strV, [q[j][0]], LeL.refl _, rfl, rfl⟩, ?_⟩
    refine ⟨_, _, ⟨fun _ => rfl, ?_, rfl, rfl⟩, ?_⟩
    · show ((out.map strV).length + ([q[j][0]].map strV).length) * 16 ≤ 140737488355328
      rw [List.length_map, List.length_map, List.length_singleton]
      omega
    repeat' (first | exact True.intro | refine ⟨_, LeL.refl _, ?_⟩ | refine ⟨_, _, _, LeL.refl _, ?_⟩ | (refine fun (b : Bool) hb => ?_; cases b <;> (first | exact absurd hb (by decide) | exact Bool.noConfusion (show true = false from hb) | exact Bool.noConfusion (show false = true from hb) | skip)) | (refine fun (hl : _ ≤ MAXL) => ?_) | refine And.intro (a := I64 _) ?_ ?_ | refine And.intro (a := _ ≤ 140737488355328) ?_ ?_ | refine ⟨_, ⟨rfl, rfl⟩, ?_⟩ | refine ⟨_, And.intro (a := I64 _) ?_ ⟨rfl, rfl⟩, ?_⟩ | refine ⟨_, _, ⟨rfl, rfl⟩, ?_⟩ | refine ⟨_, (fun _ => ⟨rfl, rfl⟩), ?_⟩ | refine And.intro (a := chkPend _ _ _ _ _ _) ?_ ?_ | refine And.intro (a := chkPast _ _ _ _ _ _ _ _) ?_ ?_ | refine ⟨⟨rfl, rfl⟩, ?_⟩ | refine And.intro (And.intro rfl rfl) ?_ | refine ⟨True.intro, ?_⟩ | refine ⟨_, ⟨_, rfl, ?_, rfl, rfl, rfl⟩, ?_⟩ | refine ⟨_, rfl, ?_, rfl, ?_⟩ | refine ⟨_, (fun _ => rfl), rfl, ?_⟩ | refine ⟨(fun _ => rfl), ?_⟩ | refine ⟨rfl, ?_⟩ | refine Opt.a ?_ | fail)
    conv => whnf
    refine ⟨_, ⟨rfl, j, by rw [hbt]; rfl, by simpa using hji, ⟨rfl, rfl⟩⟩, ?_⟩
    repeat' (first | exact True.intro | refine ⟨_, LeL.refl _, ?_⟩ | refine ⟨_, _, _, LeL.refl _, ?_⟩ | (refine fun (b : Bool) hb => ?_; cases b <;> (first | exact absurd hb (by decide) | exact Bool.noConfusion (show true = false from hb) | exact Bool.noConfusion (show false = true from hb) | skip)) | (refine fun (hl : _ ≤ MAXL) => ?_) | refine And.intro (a := I64 _) ?_ ?_ | refine And.intro (a := _ ≤ 140737488355328) ?_ ?_ | refine ⟨_, ⟨rfl, rfl⟩, ?_⟩ | refine ⟨_, And.intro (a := I64 _) ?_ ⟨rfl, rfl⟩, ?_⟩ | refine ⟨_, _, ⟨rfl, rfl⟩, ?_⟩ | refine ⟨_, (fun _ => ⟨rfl, rfl⟩), ?_⟩ | refine And.intro (a := chkPend _ _ _ _ _ _) ?_ ?_ | refine And.intro (a := chkPast _ _ _ _ _ _ _ _) ?_ ?_ | refine ⟨⟨rfl, rfl⟩, ?_⟩ | refine And.intro (And.intro rfl rfl) ?_ | refine ⟨True.intro, ?_⟩ | refine ⟨_, ⟨_, rfl, ?_, rfl, rfl, rfl⟩, ?_⟩ | refine ⟨_, rfl, ?_, rfl, ?_⟩ | refine ⟨_, (fun _ => rfl), rfl, ?_⟩ | refine ⟨(fun _ => rfl), ?_⟩ | refine ⟨rfl, ?_⟩ | refine Opt.a ?_ | fail)
    · conv => whnf
      exact ⟨⟨rfl, j, by rw [hbt]; rfl, by simpa using hji, ⟨rfl, rfl⟩⟩, trivial⟩
    conv => whnf
    refine ⟨_, ⟨_, hgj, ⟨rfl, rfl⟩⟩, ?_⟩
    repeat' (first | exact True.intro | refine ⟨_, LeL.refl _, ?_⟩ | refine ⟨_, _, _, LeL.refl _, ?_⟩ | (refine fun (b : Bool) hb => ?_; cases b <;> (first | exact absurd hb (by decide) | exact Bool.noConfusion (show true = false from hb) | exact Bool.noConfusion (show false = true from hb) | skip)) | (refine fun (hl : _ ≤ MAXL) => ?_) | refine And.intro (a := I64 _) ?_ ?_ | refine And.intro (a := _ ≤ 140737488355328) ?_ ?_ | refine ⟨_, ⟨rfl, rfl⟩, ?_⟩ | refine ⟨_, And.intro (a := I64 _) ?_ ⟨rfl, rfl⟩, ?_⟩ | refine ⟨_, _, ⟨rfl, rfl⟩, ?_⟩ | refine ⟨_, (fun _ => ⟨rfl, rfl⟩), ?_⟩ | refine And.intro (a := chkPend _ _ _ _ _ _) ?_ ?_ | refine And.intro (a := chkPast _ _ _ _ _ _ _ _) ?_ ?_ | refine ⟨⟨rfl, rfl⟩, ?_⟩ | refine And.intro (And.intro rfl rfl) ?_ | refine ⟨True.intro, ?_⟩ | refine ⟨_, ⟨_, rfl, ?_, rfl, rfl, rfl⟩, ?_⟩ | refine ⟨_, rfl, ?_, rfl, ?_⟩ | refine ⟨_, (fun _ => rfl), rfl, ?_⟩ | refine ⟨(fun _ => rfl), ?_⟩ | refine ⟨rfl, ?_⟩ | refine Opt.a ?_ | fail)
    · conv => whnf
      exact ⟨⟨_, hgj, ⟨rfl, rfl⟩⟩, trivial⟩
    refine ⟨_, ⟨fun _ => rfl, 1, rfl, hpj, rfl, rfl⟩, ?_⟩
    repeat' (first | exact True.intro | refine ⟨_, LeL.refl _, ?_⟩ | refine ⟨_, _, _, LeL.refl _, ?_⟩ | (refine fun (b : Bool) hb => ?_; cases b <;> (first | exact absurd hb (by decide) | exact Bool.noConfusion (show true = false from hb) | exact Bool.noConfusion (show false = true from hb) | skip)) | (refine fun (hl : _ ≤ MAXL) => ?_) | refine And.intro (a := I64 _) ?_ ?_ | refine And.intro (a := _ ≤ 140737488355328) ?_ ?_ | refine ⟨_, ⟨rfl, rfl⟩, ?_⟩ | refine ⟨_, And.intro (a := I64 _) ?_ ⟨rfl, rfl⟩, ?_⟩ | refine ⟨_, _, ⟨rfl, rfl⟩, ?_⟩ | refine ⟨_, (fun _ => ⟨rfl, rfl⟩), ?_⟩ | refine And.intro (a := chkPend _ _ _ _ _ _) ?_ ?_ | refine And.intro (a := chkPast _ _ _ _ _ _ _ _) ?_ ?_ | refine ⟨⟨rfl, rfl⟩, ?_⟩ | refine And.intro (And.intro rfl rfl) ?_ | refine ⟨True.intro, ?_⟩ | refine ⟨_, ⟨_, rfl, ?_, rfl, rfl, rfl⟩, ?_⟩ | refine ⟨_, rfl, ?_, rfl, ?_⟩ | refine ⟨_, (fun _ => rfl), rfl, ?_⟩ | refine ⟨(fun _ => rfl), ?_⟩ | refine ⟨rfl, ?_⟩ | refine Opt.a ?_ | fail)
    conv => whnf
    refine ⟨_, ⟨rfl, j, by rw [hbt]; rfl, by simpa using hji, ⟨rfl, rfl⟩⟩, ?_⟩
    repeat' (first | exact True.intro | refine ⟨_, LeL.refl _, ?_⟩ | refine ⟨_, _, _, LeL.refl _, ?_⟩ | (refine fun (b : Bool) hb => ?_; cases b <;> (first | exact absurd hb (by decide) | exact Bool.noConfusion (show true = false from hb) | exact Bool.noConfusion (show false = true from hb) | skip)) | (refine fun (hl : _ ≤ MAXL) => ?_) | refine And.intro (a := I64 _) ?_ ?_ | refine And.intro (a := _ ≤ 140737488355328) ?_ ?_ | refine ⟨_, ⟨rfl, rfl⟩, ?_⟩ | refine ⟨_, And.intro (a := I64 _) ?_ ⟨rfl, rfl⟩, ?_⟩ | refine ⟨_, _, ⟨rfl, rfl⟩, ?_⟩ | refine ⟨_, (fun _ => ⟨rfl, rfl⟩), ?_⟩ | refine And.intro (a := chkPend _ _ _ _ _ _) ?_ ?_ | refine And.intro (a := chkPast _ _ _ _ _ _ _ _) ?_ ?_ | refine ⟨⟨rfl, rfl⟩, ?_⟩ | refine And.intro (And.intro rfl rfl) ?_ | refine ⟨True.intro, ?_⟩ | refine ⟨_, ⟨_, rfl, ?_, rfl, rfl, rfl⟩, ?_⟩ | refine ⟨_, rfl, ?_, rfl, ?_⟩ | refine ⟨_, (fun _ => rfl), rfl, ?_⟩ | refine ⟨(fun _ => rfl), ?_⟩ | refine ⟨rfl, ?_⟩ | refine Opt.a ?_ | fail)
    conv => whnf
    refine ⟨_, _, ⟨by simpa using hji, rfl, rfl⟩, ?_⟩
    repeat' (first | exact True.intro | refine ⟨_, LeL.refl _, ?_⟩ | refine ⟨_, _, _, LeL.refl _, ?_⟩ | (refine fun (b : Bool) hb => ?_; cases b <;> (first | exact absurd hb (by decide) | exact Bool.noConfusion (show true = false from hb) | exact Bool.noConfusion (show false = true from hb) | skip)) | (refine fun (hl : _ ≤ MAXL) => ?_) | refine And.intro (a := I64 _) ?_ ?_ | refine And.intro (a := _ ≤ 140737488355328) ?_ ?_ | refine ⟨_, ⟨rfl, rfl⟩, ?_⟩ | refine ⟨_, And.intro (a := I64 _) ?_ ⟨rfl, rfl⟩, ?_⟩ | refine ⟨_, _, ⟨rfl, rfl⟩, ?_⟩ | refine ⟨_, (fun _ => ⟨rfl, rfl⟩), ?_⟩ | refine And.intro (a := chkPend _ _ _ _ _ _) ?_ ?_ | refine And.intro (a := chkPast _ _ _ _ _ _ _ _) ?_ ?_ | refine ⟨⟨rfl, rfl⟩, ?_⟩ | refine And.intro (And.intro rfl rfl) ?_ | refine ⟨True.intro, ?_⟩ | refine ⟨_, ⟨_, rfl, ?_, rfl, rfl, rfl⟩, ?_⟩ | refine ⟨_, rfl, ?_, rfl, ?_⟩ | refine ⟨_, (fun _ => rfl), rfl, ?_⟩ | refine ⟨(fun _ => rfl), ?_⟩ | refine ⟨rfl, ?_⟩ | refine Opt.a ?_ | fail)
    refine ⟨(q.set j ((q.getD j []).drop 1), out ++ [s]), ?_, ⟨?_, ?_, ?_⟩, ?_⟩
    rotate_left
    · show (out ++ [s]) ++ mergeB _ = _
      rw [← h1, hms, List.append_assoc]
      rfl
    · show (q.set j _).length = _
      rw [List.length_set, h2]
    · show (out ++ [s]).length + (q.set j _).flatten.length = _
      rw [List.length_append, List.length_singleton]
      omega
    · show (q.set j _).flatten.length < q.flatten.length
      omega
    refine wk_sel [some 0, some 2] rfl rfl ⟨?_, ?_, trivial⟩ ?_
    · show Row.row 1 _ = Row.row 1 _
      rw [hjr, hqj, List.map_set]
      rfl
    · show Row.row 1 _ = Row.row 1 _
      rw [hj0 hpj, List.map_append]
    · (repeat' (first | exact True.intro | exact rfl | exact Or.inl rfl | exact Or.inr rfl | refine And.intro ?_ ?_ | fail))
  · -- none is left
    have hge : ¬ (i : Int) < ((q.map lsV).length : Int) := of_decide_eq_false (by assumption)
    rw [List.length_map] at hge
    have ei : i = q.length := by omega
    have hb : decide (bestI (best q i) < 0) = true := by assumption
    have hn : best q q.length = none := by
      rw [ei] at hb
      cases hq : best q q.length with
      | none => rfl
      | some x =>
        obtain ⟨j, s⟩ := x
        rw [hq] at hb
        have := of_decide_eq_true hb
        have this : (j : Int) < 0 := this
        omega
    rw [mergeB_none hn, List.append_nil] at h1
    conv => whnf
    exact hK _ (by rw [h1])
  have hlt : i < q.length := by
    have h := of_decide_eq_true (by assumption : decide ((i : Int) < ((q.map lsV).length : Int)) = true)
    rw [List.length_map] at h
    omega
  have hg : (q.map lsV)[i]? = some (lsV q[i]) := by rw [List.getElem?_map, List.getElem?_eq_getElem hlt]; rfl
  refine ⟨i, rfl, by simpa using hlt, ?_⟩
  conv => whnf
  refine ⟨_, hg, ?_⟩
  have hgd : q.getD i [] = q[i] := by rw [List.getD_eq_getElem?_getD, List.getElem?_eq_getElem hlt]; rfl
  have hstep : best q (i + 1) = bestStep (best q i) i q[i] := by rw [best, hgd]
  repeat' (first | exact True.intro | refine ⟨_, LeL.refl _, ?_⟩ | refine ⟨_, _, _, LeL.refl _, ?_⟩ | (refine fun (b : Bool) hb => ?_; cases b <;> (first | exact absurd hb (by decide) | exact Bool.noConfusion (show true = false from hb) | exact Bool.noConfusion (show false = true from hb) | skip)) | (refine fun (hl : _ ≤ MAXL) => ?_) | refine And.intro (a := I64 _) ?_ ?_ | refine And.intro (a := _ ≤ 140737488355328) ?_ ?_ | refine ⟨_, ⟨rfl, rfl⟩, ?_⟩ | refine ⟨_, And.intro (a := I64 _) ?_ ⟨rfl, rfl⟩, ?_⟩ | refine ⟨_, _, ⟨rfl, rfl⟩, ?_⟩ | refine ⟨_, (fun _ => ⟨rfl, rfl⟩), ?_⟩ | refine And.intro (a := chkPend _ _ _ _ _ _) ?_ ?_ | refine And.intro (a := chkPast _ _ _ _ _ _ _ _) ?_ ?_ | refine ⟨⟨rfl, rfl⟩, ?_⟩ | refine And.intro (And.intro rfl rfl) ?_ | refine ⟨True.intro, ?_⟩ | refine ⟨_, ⟨_, rfl, ?_, rfl, rfl, rfl⟩, ?_⟩ | refine ⟨_, rfl, ?_, rfl, ?_⟩ | refine ⟨_, (fun _ => rfl), rfl, ?_⟩ | refine ⟨(fun _ => rfl), ?_⟩ | refine ⟨rfl, ?_⟩ | refine Opt.a ?_ | fail)
  · unfold I64; omega
  · have h : ¬ (0 : Int) < (q[i].length : Int) := of_decide_eq_false (by assumption)
    have h0 : q[i] = [] := List.length_eq_zero_iff.1 (by omega)
    refine ⟨i + 1, ?_, hlt, by show q.length - (i + 1) < q.length - i; omega⟩
    have e : best q (i + 1) = best q i := by rw [hstep, h0]; rfl
    rw [e]
    exact (by (refine wk_auto ?_; refine Sel4.mk rfl rfl ?_ ?_ <;> (repeat' (first | exact True.intro | exact rfl | exact Or.inl rfl | exact Or.inr rfl | refine And.intro ?_ ?_ | fail))))
  · have h : (0 : Int) < (q[i].length : Int) := of_decide_eq_true (by assumption)
    have h0 : 0 < q[i].length := by omega
    exact h0
  · have hb : ¬ bestI (best q i) < 0 := of_decide_eq_false (by assumption)
    obtain ⟨j, t, hbt⟩ : ∃ j t, best q i = some (j, t) := by
      cases hq : best q i with
      | none => rw [hq] at hb; exact absurd (show (-1 : Int) < 0 by decide) hb
      | some x => exact ⟨x.1, x.2, rfl⟩
    obtain ⟨hji, ⟨r, hjr⟩, -⟩ := best_some hbt
    have hjl : j < q.length := by omega
    have hqj : q[j] = t :: r := by rw [List.getD_eq_getElem?_getD, List.getElem?_eq_getElem hjl] at hjr; exact hjr
    have hgj : (q.map lsV)[j]? = some (lsV q[j]) := by rw [List.getElem?_map, List.getElem?_eq_getElem hjl]; rfl
    obtain ⟨s, r', hsr⟩ : ∃ s r', q[i] = s :: r' := by
      have h : (0 : Int) < (q[i].length : Int) := of_decide_eq_true (by assumption)
      cases hq : q[i] with
      | nil => rw [hq] at h; simp at h
      | cons s r => exact ⟨s, r, rfl⟩
    have hpi : 0 < q[i].length := by rw [hsr]; exact Nat.succ_pos _
    have hpj : 0 < q[j].length := by rw [hqj]; exact Nat.succ_pos _
    have hi0 : ∀ h : 0 < q[i].length, q[i][0] = s := fun h => by simp [hsr]
    have hj0 : ∀ h : 0 < q[j].length, q[j][0] = t := fun h => by simp [hqj]
    have hstep2 : best q (i + 1) = if Op.bytesLess s t = true then some (i, s) else some (j, t) := by rw [hstep, hsr, hbt]; rfl
    conv => whnf
    refine ⟨_, ⟨rfl, j, by rw [hbt]; rfl, by simpa using hjl, ⟨rfl, rfl⟩⟩, ?_⟩
    repeat' (first | exact True.intro | refine ⟨_, LeL.refl _, ?_⟩ | refine ⟨_, _, _, LeL.refl _, ?_⟩ | (refine fun (b : Bool) hb => ?_; cases b <;> (first | exact absurd hb (by decide) | exact Bool.noConfusion (show true = false from hb) | exact Bool.noConfusion (show false = true from hb) | skip)) | (refine fun (hl : _ ≤ MAXL) => ?_) | refine And.intro (a := I64 _) ?_ ?_ | refine And.intro (a := _ ≤ 140737488355328) ?_ ?_ | refine ⟨_, ⟨rfl, rfl⟩, ?_⟩ | refine ⟨_, And.intro (a := I64 _) ?_ ⟨rfl, rfl⟩, ?_⟩ | refine ⟨_, _, ⟨rfl, rfl⟩, ?_⟩ | refine ⟨_, (fun _ => ⟨rfl, rfl⟩), ?_⟩ | refine And.intro (a := chkPend _ _ _ _ _ _) ?_ ?_ | refine And.intro (a := chkPast _ _ _ _ _ _ _ _) ?_ ?_ | refine ⟨⟨rfl, rfl⟩, ?_⟩ | refine And.intro (And.intro rfl rfl) ?_ | refine ⟨True.intro, ?_⟩ | refine ⟨_, ⟨_, rfl, ?_, rfl, rfl, rfl⟩, ?_⟩ | refine ⟨_, rfl, ?_, rfl, ?_⟩ | refine ⟨_, (fun _ => rfl), rfl, ?_⟩ | refine ⟨(fun _ => rfl), ?_⟩ | refine ⟨rfl, ?_⟩ | refine Opt.a ?_ | fail)
    conv => whnf
    refine ⟨_, ⟨_, hgj, ⟨rfl, rfl⟩⟩, ?_⟩
    repeat' (first | exact True.intro | refine ⟨_, LeL.refl _, ?_⟩ | refine ⟨_, _, _, LeL.refl _, ?_⟩ | (refine fun (b : Bool) hb => ?_; cases b <;> (first | exact absurd hb (by decide) | exact Bool.noConfusion (show true = false from hb) | exact Bool.noConfusion (show false = true from hb) | skip)) | (refine fun (hl : _ ≤ MAXL) => ?_) | refine And.intro (a := I64 _) ?_ ?_ | refine And.intro (a := _ ≤ 140737488355328) ?_ ?_ | refine ⟨_, ⟨rfl, rfl⟩, ?_⟩ | refine ⟨_, And.intro (a := I64 _) ?_ ⟨rfl, rfl⟩, ?_⟩ | refine ⟨_, _, ⟨rfl, rfl⟩, ?_⟩ | refine ⟨_, (fun _ => ⟨rfl, rfl⟩), ?_⟩ | refine And.intro (a := chkPend _ _ _ _ _ _) ?_ ?_ | refine And.intro (a := chkPast _ _ _ _ _ _ _ _) ?_ ?_ | refine ⟨⟨rfl, rfl⟩, ?_⟩ | refine And.intro (And.intro rfl rfl) ?_ | refine ⟨True.intro, ?_⟩ | refine ⟨_, ⟨_, rfl, ?_, rfl, rfl, rfl⟩, ?_⟩ | refine ⟨_, rfl, ?_, rfl, ?_⟩ | refine ⟨_, (fun _ => rfl), rfl, ?_⟩ | refine ⟨(fun _ => rfl), ?_⟩ | refine ⟨rfl, ?_⟩ | refine Opt.a ?_ | fail)
    all_goals first | exact hpj | (unfold I64; omega) | skip
    · have hb2 : Op.bytesLess q[i][0] q[j][0] = false := by assumption
      rw [hi0, hj0] at hb2
      rw [hb2] at hstep2
      refine ⟨i + 1, ?_, hlt, by show q.length - (i + 1) < q.length - i; omega⟩
      rw [hstep2, hbt]
      exact (by (refine wk_auto ?_; refine Sel4.mk rfl rfl ?_ ?_ <;> (repeat' (first | exact True.intro | exact rfl | exact Or.inl rfl | exact Or.inr rfl | refine And.intro ?_ ?_ | fail))))
    · have hb2 : Op.bytesLess q[i][0] q[j][0] = true := by assumption
      rw [hi0, hj0] at hb2
      rw [hb2] at hstep2
      refine ⟨i + 1, ?_, hlt, by show q.length - (i + 1) < q.length - i; omega⟩
      rw [hstep2]
      exact (by (refine wk_auto ?_; refine Sel4.mk rfl rfl ?_ ?_ <;> (repeat' (first | exact True.intro | exact rfl | exact Or.inl rfl | exact Or.inr rfl | refine And.intro ?_ ?_ | fail))))
  · unfold I64; omega
  · have h : (0 : Int) < (q[i].length : Int) := of_decide_eq_true (by assumption)
    have hb : bestI (best q i) < 0 := of_decide_eq_true (by assumption)
    have hn : best q i = none := by
      cases hq : best q i with
      | none => rfl
      | some x =>
        obtain ⟨j, s⟩ := x
        rw [hq] at hb
        have hb : (j : Int) < 0 := hb
        omega
    obtain ⟨s, r, hsr⟩ : ∃ s r, q[i] = s :: r := by
      cases hq : q[i] with
      | nil => rw [hq] at h; simp at h
      | cons s r => exact ⟨s, r, rfl⟩
    refine ⟨i + 1, ?_, hlt, by show q.length - (i + 1) < q.length - i; omega⟩
    have e : best q (i + 1) = some (i, s) := by rw [hstep, hsr, hn]; rfl
    rw [e]
    exact (by (refine wk_auto ?_; refine Sel4.mk rfl rfl ?_ ?_ <;> (repeat' (first | exact True.intro | exact rfl | exact Or.inl rfl | exact Or.inr rfl | refine And.intro ?_ ?_ | fail))))
end Gv
namespace Gv
variable [Glob] [Laid] [Errs]
theorem atoiS_ca : callable Tryz.prog 66 = true := by kernel_rfl
def atoiS_S : Spec := fun args K => ∃ (s : Bs), args = [.str s] ∧ s.length ≤ 140737488355328 ∧ (∀ k, Lib.atoiAll s = .ok k → K (.tup [.int .i64 k, .raw .nilIface])) ∧ ∀ n T b, (∀ k, Lib.atoiAll s ≠ .ok k) → K (.tup [.int .i64 n, .raw (.iface T (.pointer (some ⟨b, 0, none⟩)))])
set_option maxHeartbeats 4000000 in
theorem atoiS_ok : Pure Tryz.prog 66 atoiS_S := by
  intro w m args us K hm hg hv hT
  obtain ⟨s, rfl, h1, hok, herr⟩ := hT
  obtain ⟨a, rfl, ha⟩ := args1 hv.1 hv.2
  obtain ⟨rfl, -⟩ := vr_str ha
  have hgw : Sub Glob.mem w := fun b o e => hm b o (hg b o e)
  have two : ∀ {m : Mem} {n : Int} {u : Value}, VR m noLoc (.tup [.int .i64 n, .raw u]) (.tuple #[.int .i64 n, u]) := fun {m n u} => by
    have h : VRL m noLoc [.int .i64 n, .raw u] [.int .i64 n, u] := VRL.cons .int (VRL.cons .raw VRL.nil)
    exact .tup h.len h.el
  cases h : Lib.atoiAll s with
  | ok v =>
    refine (Tryz.strconv_Atoi_ok (ba s) (by rw [ba_size]; omega) v h w).mono fun e w' ⟨he, hw⟩ => ?_
    refine ⟨_, _, he, Bel.of_below ?_, hok v h, two⟩
    rcases hw with rfl | ⟨t, rfl⟩
    · exact RowKit.Below.refl _ _
    · exact Lib.bytesWorld_below _ _ _
  | range =>
    obtain ⟨tp, pv, e1⟩ := Errs.rng w hgw
    refine (Tryz.strconv_Atoi_range_var (ba s) (by rw [ba_size]; omega) h tp pv w e1).mono fun e w' ⟨N, he, _, _, hw⟩ => ?_
    exact ⟨_, _, he, Bel.of_below hw, herr _ _ _ (fun k => by rw [h]; intro x; cases x), two⟩
  | _ =>
    obtain ⟨tp, pv, e1⟩ := Errs.syn w hgw
    refine (Tryz.strconv_Atoi_syntax_var (ba s) (by rw [ba_size]; omega) h tp pv w e1).mono fun e w' ⟨N, he, _, _, hw⟩ => ?_
    exact ⟨_, _, he, Bel.of_below hw, herr _ _ _ (fun k => by rw [h]; intro x; cases x), two⟩
end Gv
namespace Gv
variable [Glob] [Laid] [Nums]
theorem bel_more (w : World) (k : Nat) (os : Array Obj) : Bel [] w (Go.Sort.grow (w.drewN k) os) :=
  ⟨rfl, rfl, rfl, by rw [Go.Sort.size_grow]; exact Nat.le_add_right _ _, fun i hi _ => Go.Sort.heap_grow_old (w.drewN k) os hi⟩
theorem itoa_ca : callable Tryz.prog 107 = true := by kernel_rfl
def itoa_S : Spec := fun args K => ∃ (n : Int), args = [.int .i64 n] ∧ I64 n ∧ K (.str (Lib.itoa n))
set_option maxHeartbeats 4000000 in
theorem itoa_ok : Pure Tryz.prog 107 itoa_S := by
  intro w m args us K hm hg hv hT
  obtain ⟨n, rfl, h1, hK⟩ := hT
  obtain ⟨a, rfl, ha⟩ := args1 hv.1 hv.2
  cases ha
  refine (Tryz.strconv_Itoa n h1.1 h1.2 w (Nums.pow10 w (fun b o e => hm b o (hg b o e)))).mono fun e w' ⟨he, k, os, hw⟩ => ?_
  subst hw
  have := itoa_len n h1
  exact ⟨_, _, he, bel_more w k os, hK, .str (by unfold MAXL; omega)⟩
end Gv
namespace Gv
variable [Glob] [Laid] [Errs] [Nums]
theorem sumJ_ca : callable Tryz.prog 185 = true := by kernel_rfl
def sumJ_S : Spec := fun args K => ∃ p : List (List Bs), args = [.sl lsV p] ∧ (p.length ≤ 1000 ∧ ∀ l ∈ p, ∀ s ∈ l, s.length ≤ 1000000) ∧ K (.int .i64 (sumN p p.length))
noncomputable def sumJ_lib : List (Nat × Spec) := [(66, atoiS_S), (107, itoa_S)]
noncomputable def sumJ_fns : List (Nat × FnI) := []
noncomputable def sumJ_prims : List (Nat × PSpec) := []
theorem sumJ_E : EnvOK ⟨Tryz.prog, tys, sumJ_lib, sumJ_fns, sumJ_prims, []⟩ := env_ok mixed0 tys0 (.cons atoiS_ca atoiS_ok (.cons itoa_ca itoa_ok .nil)) .nil .nil rfl
set_option maxHeartbeats 8000000 in
theorem sumJ_ok : Pure Tryz.prog 185 sumJ_S := by
  refine pure_by sumJ_E 6 (fi := {fn := Tryz.f185, hooks := [], draws := [(7, [0, 1, 3, 7, 15, 31, 63, 127, 255, 511, 1023, 2047, 4095, 2047, 10239, 26623, 65535, 131071])]}) ⟨Tryz.func185, by kernel_rfl, by kernel_rfl⟩ ?_
  rintro _ K ⟨p, rfl, ⟨hp1, hp2⟩, hK⟩
  replace hK : ∀ r, r = .int .i64 (sumN p p.length) → K r := fun r h => h ▸ hK
  repeat' (first | exact True.intro | refine ⟨_, LeL.refl _, ?_⟩ | refine ⟨_, _, _, LeL.refl _, ?_⟩ | (refine fun (b : Bool) hb => ?_; cases b <;> (first | exact absurd hb (by decide) | exact Bool.noConfusion (show true = false from hb) | exact Bool.noConfusion (show false = true from hb) | skip)) | (refine fun (hl : _ ≤ MAXL) => ?_) | refine And.intro (a := I64 _) ?_ ?_ | refine And.intro (a := _ ≤ 140737488355328) ?_ ?_ | refine ⟨_, ⟨rfl, rfl⟩, ?_⟩ | refine ⟨_, And.intro (a := I64 _) ?_ ⟨rfl, rfl⟩, ?_⟩ | refine ⟨_, _, ⟨rfl, rfl⟩, ?_⟩ | refine ⟨_, (fun _ => ⟨rfl, rfl⟩), ?_⟩ | refine And.intro (a := chkPend _ _ _ _ _ _) ?_ ?_ | refine And.intro (a := chkPast _ _ _ _ _ _ _ _) ?_ ?_ | refine ⟨⟨rfl, rfl⟩, ?_⟩ | refine And.intro (And.intro rfl rfl) ?_ | refine ⟨True.intro, ?_⟩ | refine ⟨_, ⟨_, rfl, ?_, rfl, rfl, rfl⟩, ?_⟩ | refine ⟨_, rfl, ?_, rfl, ?_⟩ | refine ⟨_, (fun _ => rfl), rfl, ?_⟩ | refine ⟨(fun _ => rfl), ?_⟩ | refine ⟨rfl, ?_⟩ | refine Opt.a ?_ | fail)
  conv => whnf
  refine loop_live [8, 9] (σ := Nat × Int) (fun s => [(10, .int .i64 s.1), (3, .int .i64 s.2)]) (fun s => []) (fun s => s.1 ≤ p.length ∧ s.2 = sumN p s.1) (fun s => p.length - s.1) (0, 0) ?_
  conv => whnf
  refine ⟨(by (refine wk_auto ?_; refine Sel4.mk rfl rfl ?_ ?_ <;> (repeat' (first | exact True.intro | exact rfl | exact Or.inl rfl | exact Or.inr rfl | refine And.intro ?_ ?_ | fail)))), ⟨Nat.zero_le _, rfl⟩, fun s hs => ?_⟩
  obtain ⟨i, acc⟩ := s
  obtain ⟨hi, hacc⟩ := hs
  dsimp only at hi hacc
  have hbd := sumN_bnd p i
  rw [← hacc] at hbd
  repeat' (first | exact True.intro | refine ⟨_, LeL.refl _, ?_⟩ | refine ⟨_, _, _, LeL.refl _, ?_⟩ | (refine fun (b : Bool) hb => ?_; cases b <;> (first | exact absurd hb (by decide) | exact Bool.noConfusion (show true = false from hb) | exact Bool.noConfusion (show false = true from hb) | skip)) | (refine fun (hl : _ ≤ MAXL) => ?_) | refine And.intro (a := I64 _) ?_ ?_ | refine And.intro (a := _ ≤ 140737488355328) ?_ ?_ | refine ⟨_, ⟨rfl, rfl⟩, ?_⟩ | refine ⟨_, And.intro (a := I64 _) ?_ ⟨rfl, rfl⟩, ?_⟩ | refine ⟨_, _, ⟨rfl, rfl⟩, ?_⟩ | refine ⟨_, (fun _ => ⟨rfl, rfl⟩), ?_⟩ | refine And.intro (a := chkPend _ _ _ _ _ _) ?_ ?_ | refine And.intro (a := chkPast _ _ _ _ _ _ _ _) ?_ ?_ | refine ⟨⟨rfl, rfl⟩, ?_⟩ | refine And.intro (And.intro rfl rfl) ?_ | refine ⟨True.intro, ?_⟩ | refine ⟨_, ⟨_, rfl, ?_, rfl, rfl, rfl⟩, ?_⟩ | refine ⟨_, rfl, ?_, rfl, ?_⟩ | refine ⟨_, (fun _ => rfl), rfl, ?_⟩ | refine ⟨(fun _ => rfl), ?_⟩ | refine ⟨rfl, ?_⟩ | refine Opt.a ?_ | fail)
  · have hge : ¬ (i : Int) < (p.length : Int) := of_decide_eq_false (by assumption)
    have ei : i = p.length := by omega
    conv => whnf
    exact hK _ (by rw [hacc, ei])
  · have h := of_decide_eq_true (by assumption : decide ((i : Int) < (p.length : Int)) = true)
    show i < p.length
    omega
  all_goals have hlt : i < p.length := by (have h := of_decide_eq_true (by assumption : decide ((i : Int) < (p.length : Int)) = true); omega)
  all_goals have hgd : p.getD i [] = p[i] := by (rw [List.getD_eq_getElem?_getD, List.getElem?_eq_getElem hlt]; rfl)
  all_goals have hnx : sumN p (i + 1) = sumN p i + numH p[i] := by rw [sumN, hgd]
  · have h : ¬ (p[i].length : Int) = 0 := of_decide_eq_false (by assumption)
    have h0 : 0 < p[i].length := by omega
    exact h0
  · have h : ¬ (p[i].length : Int) = 0 := of_decide_eq_false (by assumption)
    obtain ⟨s, r, hsr⟩ : ∃ s r, p[i] = s :: r := by
      cases hq : p[i] with
      | nil => rw [hq] at h; simp at h
      | cons s r => exact ⟨s, r, rfl⟩
    have hs0 : ∀ h : 0 < p[i].length, p[i][0] = s := fun h => by simp [hsr]
    have hp0 : 0 < p[i].length := by rw [hsr]; exact Nat.succ_pos _
    have hsl : s.length ≤ 1000000 := hp2 _ (List.getElem_mem hlt) s (by rw [hsr]; simp)
    have hnh : numH p[i] = numOf s := by rw [hsr]; rfl
    conv => whnf
    refine ⟨p[i][0], rfl, by rw [hs0 hp0]; omega, fun k hk => ?_, fun n T b hn => ?_⟩
    · rw [hs0 hp0] at hk
      have hkb := Lib.atoiAll_bounds hk
      have hno : numOf s = if 0 ≤ k ∧ k ≤ 4000 ∧ Lib.itoa k = s then k else 0 := by unfold numOf; rw [hk]
      have hz : ∀ h : ¬ (0 ≤ k ∧ k ≤ 4000 ∧ Lib.itoa k = s), sumN p (i + 1) = sumN p i := fun h => by rw [hnx, hnh, hno, if_neg h]; omega
      repeat' (first | exact True.intro | refine ⟨_, LeL.refl _, ?_⟩ | refine ⟨_, _, _, LeL.refl _, ?_⟩ | (refine fun (b : Bool) hb => ?_; cases b <;> (first | exact absurd hb (by decide) | exact Bool.noConfusion (show true = false from hb) | exact Bool.noConfusion (show false = true from hb) | skip)) | (refine fun (hl : _ ≤ MAXL) => ?_) | refine And.intro (a := I64 _) ?_ ?_ | refine And.intro (a := _ ≤ 140737488355328) ?_ ?_ | refine ⟨_, ⟨rfl, rfl⟩, ?_⟩ | refine ⟨_, And.intro (a := I64 _) ?_ ⟨rfl, rfl⟩, ?_⟩ | refine ⟨_, _, ⟨rfl, rfl⟩, ?_⟩ | refine ⟨_, (fun _ => ⟨rfl, rfl⟩), ?_⟩ | refine And.intro (a := chkPend _ _ _ _ _ _) ?_ ?_ | refine And.intro (a := chkPast _ _ _ _ _ _ _ _) ?_ ?_ | refine ⟨⟨rfl, rfl⟩, ?_⟩ | refine And.intro (And.intro rfl rfl) ?_ | refine ⟨True.intro, ?_⟩ | refine ⟨_, ⟨_, rfl, ?_, rfl, rfl, rfl⟩, ?_⟩ | refine ⟨_, rfl, ?_, rfl, ?_⟩ | refine ⟨_, (fun _ => rfl), rfl, ?_⟩ | refine ⟨(fun _ => rfl), ?_⟩ | refine ⟨rfl, ?_⟩ | refine Opt.a ?_ | fail)
      · unfold I64; omega
      · have h : ¬ (0 : Int) ≤ k := of_decide_eq_false (by assumption)
        exact ⟨(i + 1, acc), (by (refine wk_auto ?_; refine Sel4.mk rfl rfl ?_ ?_ <;> (repeat' (first | exact True.intro | exact rfl | exact Or.inl rfl | exact Or.inr rfl | refine And.intro ?_ ?_ | fail)))), ⟨hlt, by show acc = _; rw [hz (fun e => h e.1), hacc]⟩, by show p.length - (i + 1) < p.length - i; omega⟩
      · unfold I64; omega
      · have h : ¬ k ≤ 4000 := of_decide_eq_false (by assumption)
        exact ⟨(i + 1, acc), (by (refine wk_auto ?_; refine Sel4.mk rfl rfl ?_ ?_ <;> (repeat' (first | exact True.intro | exact rfl | exact Or.inl rfl | exact Or.inr rfl | refine And.intro ?_ ?_ | fail)))), ⟨hlt, by show acc = _; rw [hz (fun e => h e.2.1), hacc]⟩, by show p.length - (i + 1) < p.length - i; omega⟩
      apply Exists.intro
      apply And.intro
      · refine ⟨k, rfl, hkb, ?_⟩
        exact ⟨rfl, rfl⟩
      repeat' (first | exact True.intro | refine ⟨_, LeL.refl _, ?_⟩ | refine ⟨_, _, _, LeL.refl _, ?_⟩ | (refine fun (b : Bool) hb => ?_; cases b <;> (first | exact absurd hb (by decide) | exact Bool.noConfusion (show true = false from hb) | exact Bool.noConfusion (show false = true from hb) | skip)) | (refine fun (hl : _ ≤ MAXL) => ?_) | refine And.intro (a := I64 _) ?_ ?_ | refine And.intro (a := _ ≤ 140737488355328) ?_ ?_ | refine ⟨_, ⟨rfl, rfl⟩, ?_⟩ | refine ⟨_, And.intro (a := I64 _) ?_ ⟨rfl, rfl⟩, ?_⟩ | refine ⟨_, _, ⟨rfl, rfl⟩, ?_⟩ | refine ⟨_, (fun _ => ⟨rfl, rfl⟩), ?_⟩ | refine And.intro (a := chkPend _ _ _ _ _ _) ?_ ?_ | refine And.intro (a := chkPast _ _ _ _ _ _ _ _) ?_ ?_ | refine ⟨⟨rfl, rfl⟩, ?_⟩ | refine And.intro (And.intro rfl rfl) ?_ | refine ⟨True.intro, ?_⟩ | refine ⟨_, ⟨_, rfl, ?_, rfl, rfl, rfl⟩, ?_⟩ | refine ⟨_, rfl, ?_, rfl, ?_⟩ | refine ⟨_, (fun _ => rfl), rfl, ?_⟩ | refine ⟨(fun _ => rfl), ?_⟩ | refine ⟨rfl, ?_⟩ | refine Opt.a ?_ | fail)
      · exact hp0
      · unfold I64; omega
      · have h : ¬ Lib.itoa k = p[i][0] := of_decide_eq_false (by assumption)
        rw [hs0 hp0] at h
        exact ⟨(i + 1, acc), (by (refine wk_auto ?_; refine Sel4.mk rfl rfl ?_ ?_ <;> (repeat' (first | exact True.intro | exact rfl | exact Or.inl rfl | exact Or.inr rfl | refine And.intro ?_ ?_ | fail)))), ⟨hlt, by show acc = _; rw [hz (fun e => h e.2.2), hacc]⟩, by show p.length - (i + 1) < p.length - i; omega⟩
      · have h2 : k ≤ 4000 := of_decide_eq_true (by assumption)
        unfold I64; omega
      · unfold I64; omega
      · have h : Lib.itoa k = p[i][0] := of_decide_eq_true (by assumption)
        rw [hs0 hp0] at h
        have h1 : (0 : Int) ≤ k := of_decide_eq_true (by assumption)
        have h2 : k ≤ 4000 := of_decide_eq_true (by assumption)
        exact ⟨(i + 1, acc + k), (by (refine wk_auto ?_; refine Sel4.mk rfl rfl ?_ ?_ <;> (repeat' (first | exact True.intro | exact rfl | exact Or.inl rfl | exact Or.inr rfl | refine And.intro ?_ ?_ | fail)))), ⟨hlt, by show acc + k = _; rw [hnx, hnh, hno, if_pos ⟨h1, h2, h⟩, hacc]⟩, by show p.length - (i + 1) < p.length - i; omega⟩
    · rw [hs0 hp0] at hn
      have hno : numOf s = 0 := by
        unfold numOf
        cases h : Lib.atoiAll s with
        | ok k => exact absurd h (hn k)
        | _ => rfl
      repeat' (first | exact True.intro | refine ⟨_, LeL.refl _, ?_⟩ | refine ⟨_, _, _, LeL.refl _, ?_⟩ | (refine fun (b : Bool) hb => ?_; cases b <;> (first | exact absurd hb (by decide) | exact Bool.noConfusion (show true = false from hb) | exact Bool.noConfusion (show false = true from hb) | skip)) | (refine fun (hl : _ ≤ MAXL) => ?_) | refine And.intro (a := I64 _) ?_ ?_ | refine And.intro (a := _ ≤ 140737488355328) ?_ ?_ | refine ⟨_, ⟨rfl, rfl⟩, ?_⟩ | refine ⟨_, And.intro (a := I64 _) ?_ ⟨rfl, rfl⟩, ?_⟩ | refine ⟨_, _, ⟨rfl, rfl⟩, ?_⟩ | refine ⟨_, (fun _ => ⟨rfl, rfl⟩), ?_⟩ | refine And.intro (a := chkPend _ _ _ _ _ _) ?_ ?_ | refine And.intro (a := chkPast _ _ _ _ _ _ _ _) ?_ ?_ | refine ⟨⟨rfl, rfl⟩, ?_⟩ | refine And.intro (And.intro rfl rfl) ?_ | refine ⟨True.intro, ?_⟩ | refine ⟨_, ⟨_, rfl, ?_, rfl, rfl, rfl⟩, ?_⟩ | refine ⟨_, rfl, ?_, rfl, ?_⟩ | refine ⟨_, (fun _ => rfl), rfl, ?_⟩ | refine ⟨(fun _ => rfl), ?_⟩ | refine ⟨rfl, ?_⟩ | refine Opt.a ?_ | fail)
      · unfold I64; omega
      · have e : sumN p (i + 1) = sumN p i := by rw [hnx, hnh, hno]; omega
        exact ⟨(i + 1, acc), (by (refine wk_auto ?_; refine Sel4.mk rfl rfl ?_ ?_ <;> (repeat' (first | exact True.intro | exact rfl | exact Or.inl rfl | exact Or.inr rfl | refine And.intro ?_ ?_ | fail)))), ⟨hlt, by show acc = _; rw [e, hacc]⟩, by show p.length - (i + 1) < p.length - i; omega⟩
  · unfold I64; omega
  · have h : (p[i].length : Int) = 0 := of_decide_eq_true (by assumption)
    have h0 : p[i] = [] := List.length_eq_zero_iff.1 (by omega)
    have e : sumN p (i + 1) = sumN p i := by rw [hnx, h0]; show _ + 0 = _; omega
    exact ⟨(i + 1, acc), (by (refine wk_auto ?_; refine Sel4.mk rfl rfl ?_ ?_ <;> (repeat' (first | exact True.intro | exact rfl | exact Or.inl rfl | exact Or.inr rfl | refine And.intro ?_ ?_ | fail)))), ⟨hlt, by show acc = _; rw [e, hacc]⟩, by show p.length - (i + 1) < p.length - i; omega⟩
end Gv
namespace Gv
variable [Glob] [Laid]
theorem containsS_ca : callable Tryz.prog 104 = true := by kernel_rfl
def containsS_S : Spec := fun args K => ∃ (s sub : Bs), args = [.str s, .str sub] ∧ s.length < 4294967281 ∧ K (.bool (Lib.contains s sub))
set_option maxHeartbeats 4000000 in
theorem containsS_ok : Pure Tryz.prog 104 containsS_S := by
  intro w m args us K hm hg hv hT
  obtain ⟨s, sub, rfl, h1, hK⟩ := hT
  obtain ⟨a, b, rfl, ha, hb⟩ := args2 hv.1 hv.2
  obtain ⟨rfl, -⟩ := vr_str ha
  obtain ⟨rfl, -⟩ := vr_str hb
  obtain ⟨n, hn⟩ := Laid.maxlen w (fun b o e => hm b o (hg b o e))
  refine (Tryz.strings_Contains (ba s) (ba sub) n w (by rw [ba_size]; exact h1) hn).mono fun e w' ⟨he, hw⟩ => ?_
  subst hw
  exact ⟨_, _, he, Bel.refl _ _, hK, .bool⟩
end Gv
namespace Gv
variable [Glob] [Laid]
theorem replaceS_ca : callable Tryz.prog 229 = true := by kernel_rfl
def replaceS_S : Spec := fun args K => ∃ (s old new : Bs), args = [.str s, .str old, .str new] ∧ (s.length < 4294967281 ∧ 1 ≤ old.length ∧ s.length + Lib.count s old * new.length ≤ 140737488355328 ∧ (Lib.replaceAll s old new).length ≤ MAXL) ∧ K (.str (Lib.replaceAll s old new))
set_option maxHeartbeats 4000000 in
theorem replaceS_ok : Pure Tryz.prog 229 replaceS_S := by
  intro w m args us K hm hg hv hT
  obtain ⟨s, old, new, rfl, ⟨h1, h2, h3, h4⟩, hK⟩ := hT
  obtain ⟨a, b, c, rfl, ha, hb, hc⟩ := args3 hv.1 hv.2
  obtain ⟨rfl, -⟩ := vr_str ha
  obtain ⟨rfl, -⟩ := vr_str hb
  obtain ⟨rfl, -⟩ := vr_str hc
  obtain ⟨n, hn⟩ := Laid.maxlen w (fun b o e => hm b o (hg b o e))
  refine (Tryz.strings_ReplaceAll (ba s) (ba old) (ba new) n w (by rw [ba_size]; exact h1) hn (by rw [ba_size]; exact h2) (by rw [ba_size, ba_size]; exact h3)).mono fun e w' ⟨he, hw⟩ => ?_
  exact ⟨_, _, he, Bel.of_below hw, hK, .str h4⟩
end Gv
namespace Gv
variable [Glob] [Laid]
theorem splitS_ca : callable Tryz.prog 105 = true := by kernel_rfl
def splitS_S : Spec := fun args K => ∃ (s sep : Bs), args = [.str s, .str sep] ∧ (s.length < 4294967281 ∧ 1 ≤ sep.length) ∧ K (.sl strV (Lib.split s sep))
set_option maxHeartbeats 4000000 in
theorem splitS_ok : Pure Tryz.prog 105 splitS_S := by
  intro w m args us K hm hg hv hT
  obtain ⟨s, sep, rfl, ⟨h1, h2⟩, hK⟩ := hT
  obtain ⟨a, b, rfl, ha, hb⟩ := args2 hv.1 hv.2
  obtain ⟨rfl, -⟩ := vr_str ha
  obtain ⟨rfl, -⟩ := vr_str hb
  obtain ⟨n, hn⟩ := Laid.maxlen w (fun b o e => hm b o (hg b o e))
  refine (Tryz.strings_Split (ba s) (ba sep) n w (by rw [ba_size]; exact h1) hn (by rw [ba_size]; exact h2)).mono fun e w' ⟨he, hw⟩ => ?_
  subst hw
  rw [split_cells] at *
  have hc : Lib.countB (ba s) (ba sep) + 1 = (Lib.split s sep).length := (split_len s sep h2).symm
  have hle : (Lib.split s sep).length ≤ s.length + 2 := by
    rw [← hc]
    have := Lib.count_le s sep
    show Lib.count s sep + 1 ≤ _
    omega
  refine ⟨_, _, by rw [he, hc], Bel.alloc [] w _, hK, strs_new (Gw.heap_alloc_new w _) (by unfold MAXL; omega) fun x hx => ?_⟩
  have := splitK_le sep _ s x hx
  unfold MAXL
  omega
end Gv
namespace Gv
variable [Glob] [Laid]
def swp (l : Bs) (i : Nat) : Bs := (List.range l.length).map fun k => if k < i ∨ l.length - 1 - k < i then l.getD (l.length - 1 - k) 0 else l.getD k 0
theorem swp_len (l : Bs) (i : Nat) : (swp l i).length = l.length := by simp [swp]
theorem swp_0 (l : Bs) : swp l 0 = l := by
  refine List.ext_getElem (by simp [swp]) fun i h1 h2 => ?_
  simp [swp, h2]
theorem swp_end (l : Bs) (i : Nat) (h : l.length ≤ 2 * i + 1) : swp l i = l.reverse := by
  refine List.ext_getElem (by simp [swp]) fun k h1 h2 => ?_
  have hk : k < l.length := by simpa using h2
  simp only [swp, List.getElem_map, List.getElem_range, List.getElem_reverse]
  by_cases hc : k < i ∨ l.length - 1 - k < i
  · rw [if_pos hc, List.getD_eq_getElem?_getD, List.getElem?_eq_getElem (by omega)]
    rfl
  · rw [if_neg hc, List.getD_eq_getElem?_getD, List.getElem?_eq_getElem hk]
    have e : l.length - 1 - k = k := by omega
    simp only [e]
    rfl
theorem swp_next (l : Bs) (i : Nat) (h : 2 * i + 1 < l.length) : ((swp l i).set i (l.getD (l.length - 1 - i) 0)).set (l.length - 1 - i) (l.getD i 0) = swp l (i + 1) := by
  refine List.ext_getElem (by simp [swp]) fun k h1 h2 => ?_
  have hk : k < l.length := by simpa [swp] using h2
  rw [List.getElem_set, List.getElem_set]
  simp only [swp, List.getElem_map, List.getElem_range]
  by_cases e1 : l.length - 1 - i = k
  · rw [if_pos e1, if_pos (by omega)]
    have : l.length - 1 - k = i := by omega
    rw [this]
  · rw [if_neg e1]
    by_cases e2 : i = k
    · rw [if_pos e2, if_pos (by omega), e2]
    · rw [if_neg e2]
      by_cases hc : k < i ∨ l.length - 1 - k < i
      · rw [if_pos hc, if_pos (by omega)]
      · rw [if_neg hc, if_neg (by omega)]
theorem swp_at (l : Bs) (i k : Nat) (hk : k < l.length) (h : ¬ (k < i ∨ l.length - 1 - k < i)) : (swp l i)[k]? = some (l.getD k 0) := by
  unfold swp
  rw [List.getElem?_map, List.getElem?_range hk]
  simp only [Option.map_some]
  rw [if_neg h]
theorem revB_ca : callable Tryz.prog 230 = true := by kernel_rfl
def revB_P : PSpec := fun args rows K => ∃ (l : Bs), args = [.own 0] ∧ rows = [.row 1 (l.map byteV)] ∧ l.length ≤ 1000000 ∧ K (.tup []) [.row 1 (l.reverse.map byteV)]
noncomputable def revB_lib : List (Nat × Spec) := []
noncomputable def revB_fns : List (Nat × FnI) := []
noncomputable def revB_prims : List (Nat × PSpec) := []
theorem revB_E : EnvOK ⟨Tryz.prog, tys, revB_lib, revB_fns, revB_prims, []⟩ := env_ok mixed0 tys0 .nil .nil .nil rfl
set_option maxHeartbeats 4000000 in
theorem revB_prim : PrimOK Tryz.prog 230 revB_P := by
  refine prim_by revB_E 6 revB_ca (fi := {fn := Tryz.f230, hooks := [], draws := [(3, [0, 0, 0, 0, 0, 0, 48, 112, 0, 0, 768, 1792, 4083, 8179, 16383, 32767])]}) ⟨Tryz.func230, by kernel_rfl, by kernel_rfl⟩ ?_
  rintro args rows K ⟨l, rfl, rfl, hz, hK⟩
  repeat' (first | exact True.intro | refine ⟨_, LeL.refl _, ?_⟩ | refine ⟨_, _, _, LeL.refl _, ?_⟩ | (refine fun (b : Bool) hb => ?_; cases b <;> (first | exact absurd hb (by decide) | exact Bool.noConfusion (show true = false from hb) | exact Bool.noConfusion (show false = true from hb) | skip)) | (refine fun (hl : _ ≤ MAXL) => ?_) | refine And.intro (a := I64 _) ?_ ?_ | refine And.intro (a := _ ≤ 140737488355328) ?_ ?_ | refine ⟨_, ⟨rfl, rfl⟩, ?_⟩ | refine ⟨_, And.intro (a := I64 _) ?_ ⟨rfl, rfl⟩, ?_⟩ | refine ⟨_, _, ⟨rfl, rfl⟩, ?_⟩ | refine ⟨_, (fun _ => ⟨rfl, rfl⟩), ?_⟩ | refine And.intro (a := chkPend _ _ _ _ _ _) ?_ ?_ | refine And.intro (a := chkPast _ _ _ _ _ _ _ _) ?_ ?_ | refine ⟨⟨rfl, rfl⟩, ?_⟩ | refine And.intro (And.intro rfl rfl) ?_ | refine ⟨True.intro, ?_⟩ | refine ⟨_, ⟨_, rfl, ?_, rfl, rfl, rfl⟩, ?_⟩ | refine ⟨_, rfl, ?_, rfl, ?_⟩ | refine ⟨_, (fun _ => rfl), rfl, ?_⟩ | refine ⟨(fun _ => rfl), ?_⟩ | refine ⟨rfl, ?_⟩ | refine Opt.a ?_ | fail)
  · (first | omega | (unfold I64; omega) | (simp only [List.length_append, List.length_map, List.length_cons, List.length_nil, Nat.mul_one, Int.ofNat_eq_natCast] at *; omega) | (dsimp only at *; omega) | (unfold I64; dsimp only at *; omega) | (unfold I64; grind) | grind)
  conv => whnf
  refine loop_live [0] (σ := Nat × Int × Bs) (fun s => [(2, .int .i64 s.1), (3, .int .i64 s.2.1)]) (fun s => [.row 1 (s.2.2.map byteV)]) (fun s => s.2.1 = (l.length : Int) - 1 - s.1 ∧ s.2.2 = swp l s.1 ∧ 2 * s.1 ≤ l.length + 1) (fun s => l.length + 1 - s.1) (0, ((l.map byteV).length : Int) - 1, l) ?_
  conv => whnf
  refine ⟨(by (refine wk_auto ?_; refine Sel4.mk rfl rfl ?_ ?_ <;> (repeat' (first | exact True.intro | exact rfl | exact Or.inl rfl | exact Or.inr rfl | refine And.intro ?_ ?_ | fail)))), ⟨by simp, (swp_0 l).symm, by omega⟩, fun s hs => ?_⟩
  obtain ⟨i, j, d⟩ := s
  obtain ⟨hj, hd, hi⟩ := hs
  dsimp only at hj hd hi
  have hdl : d.length = l.length := by rw [hd, swp_len]
  repeat' (first | exact True.intro | refine ⟨_, LeL.refl _, ?_⟩ | refine ⟨_, _, _, LeL.refl _, ?_⟩ | (refine fun (b : Bool) hb => ?_; cases b <;> (first | exact absurd hb (by decide) | exact Bool.noConfusion (show true = false from hb) | exact Bool.noConfusion (show false = true from hb) | skip)) | (refine fun (hl : _ ≤ MAXL) => ?_) | refine And.intro (a := I64 _) ?_ ?_ | refine And.intro (a := _ ≤ 140737488355328) ?_ ?_ | refine ⟨_, ⟨rfl, rfl⟩, ?_⟩ | refine ⟨_, And.intro (a := I64 _) ?_ ⟨rfl, rfl⟩, ?_⟩ | refine ⟨_, _, ⟨rfl, rfl⟩, ?_⟩ | refine ⟨_, (fun _ => ⟨rfl, rfl⟩), ?_⟩ | refine And.intro (a := chkPend _ _ _ _ _ _) ?_ ?_ | refine And.intro (a := chkPast _ _ _ _ _ _ _ _) ?_ ?_ | refine ⟨⟨rfl, rfl⟩, ?_⟩ | refine And.intro (And.intro rfl rfl) ?_ | refine ⟨True.intro, ?_⟩ | refine ⟨_, ⟨_, rfl, ?_, rfl, rfl, rfl⟩, ?_⟩ | refine ⟨_, rfl, ?_, rfl, ?_⟩ | refine ⟨_, (fun _ => rfl), rfl, ?_⟩ | refine ⟨(fun _ => rfl), ?_⟩ | refine ⟨rfl, ?_⟩ | refine Opt.a ?_ | fail)
  · have hij : ¬ (i : Int) < j := of_decide_eq_false (by assumption)
    have : d = l.reverse := by rw [hd, swp_end _ _ (by omega)]
    rw [this]
    conv => whnf
    exact hK
  have hij : (i : Int) < j := of_decide_eq_true (by assumption)
  obtain ⟨k, hk⟩ : ∃ k : Nat, j = k := ⟨j.toNat, by omega⟩
  subst hk
  have hkl : k < d.length := by omega
  have hil : i < d.length := by omega
  have gk : (List.map byteV d)[k]? = some (byteV d[k]) := by rw [List.getElem?_map, List.getElem?_eq_getElem hkl]; rfl
  have gi : (List.map byteV d)[i]? = some (byteV d[i]) := by rw [List.getElem?_map, List.getElem?_eq_getElem hil]; rfl
  refine ⟨_, ⟨rfl, k, rfl, by simpa using hkl, ⟨rfl, rfl⟩⟩, ?_⟩
  repeat' (first | exact True.intro | refine ⟨_, LeL.refl _, ?_⟩ | refine ⟨_, _, _, LeL.refl _, ?_⟩ | (refine fun (b : Bool) hb => ?_; cases b <;> (first | exact absurd hb (by decide) | exact Bool.noConfusion (show true = false from hb) | exact Bool.noConfusion (show false = true from hb) | skip)) | (refine fun (hl : _ ≤ MAXL) => ?_) | refine And.intro (a := I64 _) ?_ ?_ | refine And.intro (a := _ ≤ 140737488355328) ?_ ?_ | refine ⟨_, ⟨rfl, rfl⟩, ?_⟩ | refine ⟨_, And.intro (a := I64 _) ?_ ⟨rfl, rfl⟩, ?_⟩ | refine ⟨_, _, ⟨rfl, rfl⟩, ?_⟩ | refine ⟨_, (fun _ => ⟨rfl, rfl⟩), ?_⟩ | refine And.intro (a := chkPend _ _ _ _ _ _) ?_ ?_ | refine And.intro (a := chkPast _ _ _ _ _ _ _ _) ?_ ?_ | refine ⟨⟨rfl, rfl⟩, ?_⟩ | refine And.intro (And.intro rfl rfl) ?_ | refine ⟨True.intro, ?_⟩ | refine ⟨_, ⟨_, rfl, ?_, rfl, rfl, rfl⟩, ?_⟩ | refine ⟨_, rfl, ?_, rfl, ?_⟩ | refine ⟨_, (fun _ => rfl), rfl, ?_⟩ | refine ⟨(fun _ => rfl), ?_⟩ | refine ⟨rfl, ?_⟩ | refine Opt.a ?_ | fail)
  conv => whnf
  refine ⟨_, ⟨_, gk, ⟨rfl, rfl⟩⟩, ?_⟩
  repeat' (first | exact True.intro | refine ⟨_, LeL.refl _, ?_⟩ | refine ⟨_, _, _, LeL.refl _, ?_⟩ | (refine fun (b : Bool) hb => ?_; cases b <;> (first | exact absurd hb (by decide) | exact Bool.noConfusion (show true = false from hb) | exact Bool.noConfusion (show false = true from hb) | skip)) | (refine fun (hl : _ ≤ MAXL) => ?_) | refine And.intro (a := I64 _) ?_ ?_ | refine And.intro (a := _ ≤ 140737488355328) ?_ ?_ | refine ⟨_, ⟨rfl, rfl⟩, ?_⟩ | refine ⟨_, And.intro (a := I64 _) ?_ ⟨rfl, rfl⟩, ?_⟩ | refine ⟨_, _, ⟨rfl, rfl⟩, ?_⟩ | refine ⟨_, (fun _ => ⟨rfl, rfl⟩), ?_⟩ | refine And.intro (a := chkPend _ _ _ _ _ _) ?_ ?_ | refine And.intro (a := chkPast _ _ _ _ _ _ _ _) ?_ ?_ | refine ⟨⟨rfl, rfl⟩, ?_⟩ | refine And.intro (And.intro rfl rfl) ?_ | refine ⟨True.intro, ?_⟩ | refine ⟨_, ⟨_, rfl, ?_, rfl, rfl, rfl⟩, ?_⟩ | refine ⟨_, rfl, ?_, rfl, ?_⟩ | refine ⟨_, (fun _ => rfl), rfl, ?_⟩ | refine ⟨(fun _ => rfl), ?_⟩ | refine ⟨rfl, ?_⟩ | refine Opt.a ?_ | fail)
  conv => whnf
  refine ⟨_, ⟨rfl, i, rfl, by simpa using hil, ⟨rfl, rfl⟩⟩, ?_⟩
  repeat' (first | exact True.intro | refine ⟨_, LeL.refl _, ?_⟩ | refine ⟨_, _, _, LeL.refl _, ?_⟩ | (refine fun (b : Bool) hb => ?_; cases b <;> (first | exact absurd hb (by decide) | exact Bool.noConfusion (show true = false from hb) | exact Bool.noConfusion (show false = true from hb) | skip)) | (refine fun (hl : _ ≤ MAXL) => ?_) | refine And.intro (a := I64 _) ?_ ?_ | refine And.intro (a := _ ≤ 140737488355328) ?_ ?_ | refine ⟨_, ⟨rfl, rfl⟩, ?_⟩ | refine ⟨_, And.intro (a := I64 _) ?_ ⟨rfl, rfl⟩, ?_⟩ | refine ⟨_, _, ⟨rfl, rfl⟩, ?_⟩ | refine ⟨_, (fun _ => ⟨rfl, rfl⟩), ?_⟩ | refine And.intro (a := chkPend _ _ _ _ _ _) ?_ ?_ | refine And.intro (a := chkPast _ _ _ _ _ _ _ _) ?_ ?_ | refine ⟨⟨rfl, rfl⟩, ?_⟩ | refine And.intro (And.intro rfl rfl) ?_ | refine ⟨True.intro, ?_⟩ | refine ⟨_, ⟨_, rfl, ?_, rfl, rfl, rfl⟩, ?_⟩ | refine ⟨_, rfl, ?_, rfl, ?_⟩ | refine ⟨_, (fun _ => rfl), rfl, ?_⟩ | refine ⟨(fun _ => rfl), ?_⟩ | refine ⟨rfl, ?_⟩ | refine Opt.a ?_ | fail)
  conv => whnf
  refine ⟨_, ⟨_, gi, ⟨rfl, rfl⟩⟩, ?_⟩
  repeat' (first | exact True.intro | refine ⟨_, LeL.refl _, ?_⟩ | refine ⟨_, _, _, LeL.refl _, ?_⟩ | (refine fun (b : Bool) hb => ?_; cases b <;> (first | exact absurd hb (by decide) | exact Bool.noConfusion (show true = false from hb) | exact Bool.noConfusion (show false = true from hb) | skip)) | (refine fun (hl : _ ≤ MAXL) => ?_) | refine And.intro (a := I64 _) ?_ ?_ | refine And.intro (a := _ ≤ 140737488355328) ?_ ?_ | refine ⟨_, ⟨rfl, rfl⟩, ?_⟩ | refine ⟨_, And.intro (a := I64 _) ?_ ⟨rfl, rfl⟩, ?_⟩ | refine ⟨_, _, ⟨rfl, rfl⟩, ?_⟩ | refine ⟨_, (fun _ => ⟨rfl, rfl⟩), ?_⟩ | refine And.intro (a := chkPend _ _ _ _ _ _) ?_ ?_ | refine And.intro (a := chkPast _ _ _ _ _ _ _ _) ?_ ?_ | refine ⟨⟨rfl, rfl⟩, ?_⟩ | refine And.intro (And.intro rfl rfl) ?_ | refine ⟨True.intro, ?_⟩ | refine ⟨_, ⟨_, rfl, ?_, rfl, rfl, rfl⟩, ?_⟩ | refine ⟨_, rfl, ?_, rfl, ?_⟩ | refine ⟨_, (fun _ => rfl), rfl, ?_⟩ | refine ⟨(fun _ => rfl), ?_⟩ | refine ⟨rfl, ?_⟩ | refine Opt.a ?_ | fail)
  conv => whnf
  refine ⟨_, ⟨rfl, i, rfl, by simpa using hil, ⟨rfl, rfl⟩⟩, ?_⟩
  repeat' (first | exact True.intro | refine ⟨_, LeL.refl _, ?_⟩ | refine ⟨_, _, _, LeL.refl _, ?_⟩ | (refine fun (b : Bool) hb => ?_; cases b <;> (first | exact absurd hb (by decide) | exact Bool.noConfusion (show true = false from hb) | exact Bool.noConfusion (show false = true from hb) | skip)) | (refine fun (hl : _ ≤ MAXL) => ?_) | refine And.intro (a := I64 _) ?_ ?_ | refine And.intro (a := _ ≤ 140737488355328) ?_ ?_ | refine ⟨_, ⟨rfl, rfl⟩, ?_⟩ | refine ⟨_, And.intro (a := I64 _) ?_ ⟨rfl, rfl⟩, ?_⟩ | refine ⟨_, _, ⟨rfl, rfl⟩, ?_⟩ | refine ⟨_, (fun _ => ⟨rfl, rfl⟩), ?_⟩ | refine And.intro (a := chkPend _ _ _ _ _ _) ?_ ?_ | refine And.intro (a := chkPast _ _ _ _ _ _ _ _) ?_ ?_ | refine ⟨⟨rfl, rfl⟩, ?_⟩ | refine And.intro (And.intro rfl rfl) ?_ | refine ⟨True.intro, ?_⟩ | refine ⟨_, ⟨_, rfl, ?_, rfl, rfl, rfl⟩, ?_⟩ | refine ⟨_, rfl, ?_, rfl, ?_⟩ | refine ⟨_, (fun _ => rfl), rfl, ?_⟩ | refine ⟨(fun _ => rfl), ?_⟩ | refine ⟨rfl, ?_⟩ | refine Opt.a ?_ | fail)
  refine ⟨_, _, ⟨by simpa using hil, rfl, rfl⟩, ?_⟩
  repeat' (first | exact True.intro | refine ⟨_, LeL.refl _, ?_⟩ | refine ⟨_, _, _, LeL.refl _, ?_⟩ | (refine fun (b : Bool) hb => ?_; cases b <;> (first | exact absurd hb (by decide) | exact Bool.noConfusion (show true = false from hb) | exact Bool.noConfusion (show false = true from hb) | skip)) | (refine fun (hl : _ ≤ MAXL) => ?_) | refine And.intro (a := I64 _) ?_ ?_ | refine And.intro (a := _ ≤ 140737488355328) ?_ ?_ | refine ⟨_, ⟨rfl, rfl⟩, ?_⟩ | refine ⟨_, And.intro (a := I64 _) ?_ ⟨rfl, rfl⟩, ?_⟩ | refine ⟨_, _, ⟨rfl, rfl⟩, ?_⟩ | refine ⟨_, (fun _ => ⟨rfl, rfl⟩), ?_⟩ | refine And.intro (a := chkPend _ _ _ _ _ _) ?_ ?_ | refine And.intro (a := chkPast _ _ _ _ _ _ _ _) ?_ ?_ | refine ⟨⟨rfl, rfl⟩, ?_⟩ | refine And.intro (And.intro rfl rfl) ?_ | refine ⟨True.intro, ?_⟩ | refine ⟨_, ⟨_, rfl, ?_, rfl, rfl, rfl⟩, ?_⟩ | refine ⟨_, rfl, ?_, rfl, ?_⟩ | refine ⟨_, (fun _ => rfl), rfl, ?_⟩ | refine ⟨(fun _ => rfl), ?_⟩ | refine ⟨rfl, ?_⟩ | refine Opt.a ?_ | fail)
  conv => whnf
  refine ⟨_, ⟨rfl, k, rfl, by simpa using hkl, ⟨rfl, rfl⟩⟩, ?_⟩
  repeat' (first | exact True.intro | refine ⟨_, LeL.refl _, ?_⟩ | refine ⟨_, _, _, LeL.refl _, ?_⟩ | (refine fun (b : Bool) hb => ?_; cases b <;> (first | exact absurd hb (by decide) | exact Bool.noConfusion (show true = false from hb) | exact Bool.noConfusion (show false = true from hb) | skip)) | (refine fun (hl : _ ≤ MAXL) => ?_) | refine And.intro (a := I64 _) ?_ ?_ | refine And.intro (a := _ ≤ 140737488355328) ?_ ?_ | refine ⟨_, ⟨rfl, rfl⟩, ?_⟩ | refine ⟨_, And.intro (a := I64 _) ?_ ⟨rfl, rfl⟩, ?_⟩ | refine ⟨_, _, ⟨rfl, rfl⟩, ?_⟩ | refine ⟨_, (fun _ => ⟨rfl, rfl⟩), ?_⟩ | refine And.intro (a := chkPend _ _ _ _ _ _) ?_ ?_ | refine And.intro (a := chkPast _ _ _ _ _ _ _ _) ?_ ?_ | refine ⟨⟨rfl, rfl⟩, ?_⟩ | refine And.intro (And.intro rfl rfl) ?_ | refine ⟨True.intro, ?_⟩ | refine ⟨_, ⟨_, rfl, ?_, rfl, rfl, rfl⟩, ?_⟩ | refine ⟨_, rfl, ?_, rfl, ?_⟩ | refine ⟨_, (fun _ => rfl), rfl, ?_⟩ | refine ⟨(fun _ => rfl), ?_⟩ | refine ⟨rfl, ?_⟩ | refine Opt.a ?_ | fail)
  conv => whnf
  refine ⟨_, _, ⟨by simpa using hkl, rfl, rfl⟩, ?_⟩
  repeat' (first | exact True.intro | refine ⟨_, LeL.refl _, ?_⟩ | refine ⟨_, _, _, LeL.refl _, ?_⟩ | (refine fun (b : Bool) hb => ?_; cases b <;> (first | exact absurd hb (by decide) | exact Bool.noConfusion (show true = false from hb) | exact Bool.noConfusion (show false = true from hb) | skip)) | (refine fun (hl : _ ≤ MAXL) => ?_) | refine And.intro (a := I64 _) ?_ ?_ | refine And.intro (a := _ ≤ 140737488355328) ?_ ?_ | refine ⟨_, ⟨rfl, rfl⟩, ?_⟩ | refine ⟨_, And.intro (a := I64 _) ?_ ⟨rfl, rfl⟩, ?_⟩ | refine ⟨_, _, ⟨rfl, rfl⟩, ?_⟩ | refine ⟨_, (fun _ => ⟨rfl, rfl⟩), ?_⟩ | refine And.intro (a := chkPend _ _ _ _ _ _) ?_ ?_ | refine And.intro (a := chkPast _ _ _ _ _ _ _ _) ?_ ?_ | refine ⟨⟨rfl, rfl⟩, ?_⟩ | refine And.intro (And.intro rfl rfl) ?_ | refine ⟨True.intro, ?_⟩ | refine ⟨_, ⟨_, rfl, ?_, rfl, rfl, rfl⟩, ?_⟩ | refine ⟨_, rfl, ?_, rfl, ?_⟩ | refine ⟨_, (fun _ => rfl), rfl, ?_⟩ | refine ⟨(fun _ => rfl), ?_⟩ | refine ⟨rfl, ?_⟩ | refine Opt.a ?_ | fail)
  · unfold I64
    dsimp only
    omega
  · unfold I64
    dsimp only
    omega
  have ek : k = l.length - 1 - i := by omega
  have e1 : d[k] = l.getD k 0 := by
    have h := swp_at l i k (by omega) (by omega)
    rw [← hd, List.getElem?_eq_getElem hkl] at h
    exact Option.some.inj h
  have e2 : d[i] = l.getD i 0 := by
    have h := swp_at l i i (by omega) (by omega)
    rw [← hd, List.getElem?_eq_getElem hil] at h
    exact Option.some.inj h
  refine ⟨(i + 1, (k : Int) - 1, (d.set i d[k]).set k d[i]), ?_, ⟨?_, ?_, ?_⟩, ?_⟩
  rotate_left
  · show (k : Int) - 1 = (l.length : Int) - 1 - ((i + 1 : Nat) : Int)
    omega
  · show (d.set i d[k]).set k d[i] = swp l (i + 1)
    rw [e1, e2, hd, ek]
    exact swp_next l i (by omega)
  · show 2 * (i + 1) ≤ l.length + 1
    omega
  · show l.length + 1 - (i + 1) < l.length + 1 - i
    omega
  (refine wk_auto ?_; refine Sel4.mk rfl rfl ?_ ?_ <;> (repeat' (first | exact True.intro | exact rfl | exact Or.inl rfl | exact Or.inr rfl | refine And.intro ?_ ?_ | fail)))
  all_goals try (show Row.row 1 _ = Row.row 1 _)
  simp [List.map_set]
end Gv
namespace Gv
variable [Glob] [Laid]
theorem one_ca : callable Tryz.prog 161 = true := by kernel_rfl
def one_S : Spec := fun args K => ∃ (c : Cmd) (s : Bs), args = [cmdV c, .str s] ∧ (checkCmd c = 0 ∧ s.length ≤ 100000) ∧ K (.tup [.str (oneC c s).1, .bool (oneC c s).2])
noncomputable def one_lib : List (Nat × Spec) := [(104, containsS_S), (229, replaceS_S), (105, splitS_S)]
noncomputable def one_fns : List (Nat × FnI) := []
noncomputable def one_prims : List (Nat × PSpec) := [(230, revB_P)]
theorem one_E : EnvOK ⟨Tryz.prog, tys, one_lib, one_fns, one_prims, []⟩ := env_ok mixed0 tys0 (.cons containsS_ca containsS_ok (.cons replaceS_ca replaceS_ok (.cons splitS_ca splitS_ok .nil))) .nil (.cons revB_prim .nil) rfl
set_option maxHeartbeats 4000000 in
theorem one_ok : Pure Tryz.prog 161 one_S := by
  refine pure_by one_E 6 (fi := {fn := Tryz.f161, hooks := [], draws := [(7, [0, 0, 2, 6, 0, 16, 48, 127, 255, 511])]}) ⟨Tryz.func161, by kernel_rfl, by kernel_rfl⟩ ?_
  rintro _ K ⟨c, s, rfl, ⟨hc, hs⟩, hK⟩
  replace hK : ∀ r, r = .tup [.str (oneC c s).1, .bool (oneC c s).2] → K r := fun r h => h ▸ hK
  have hsw := @splitK_sz [32] (Lib.count s [32]) s
  have hsn : 0 < (Lib.split s [32]).length := List.length_pos_iff.2 (split_ne s [32])
  have hcn : c.kind = 4 → 1 ≤ c.n := fun h => by
    unfold checkCmd useN at hc
    grind
  have hcw := @word2 c hc
  have hsl : (Lib.split s [32]).length ≤ 1000000 := by
    rw [split_len _ _ (by decide), Lib.count_one]
    have := List.count_le_length (a := (32 : UInt8)) (l := s)
    omega
  have hone : ∀ r : Bs × Bool, oneC c s = r → K (.tup [.str r.1, .bool r.2]) := fun r h => hK _ (by rw [h])
  unfold oneC at hone
  repeat' (first | exact True.intro | refine ⟨_, LeL.refl _, ?_⟩ | refine ⟨_, _, _, LeL.refl _, ?_⟩ | (refine fun (b : Bool) hb => ?_; cases b <;> (first | exact absurd hb (by decide) | exact Bool.noConfusion (show true = false from hb) | exact Bool.noConfusion (show false = true from hb) | skip)) | (refine fun (hl : _ ≤ MAXL) => ?_) | refine And.intro (a := I64 _) ?_ ?_ | refine And.intro (a := _ ≤ 140737488355328) ?_ ?_ | refine ⟨_, ⟨rfl, rfl⟩, ?_⟩ | refine ⟨_, And.intro (a := I64 _) ?_ ⟨rfl, rfl⟩, ?_⟩ | refine ⟨_, _, ⟨rfl, rfl⟩, ?_⟩ | refine ⟨_, (fun _ => ⟨rfl, rfl⟩), ?_⟩ | refine And.intro (a := chkPend _ _ _ _ _ _) ?_ ?_ | refine And.intro (a := chkPast _ _ _ _ _ _ _ _) ?_ ?_ | refine ⟨⟨rfl, rfl⟩, ?_⟩ | refine And.intro (And.intro rfl rfl) ?_ | refine ⟨True.intro, ?_⟩ | refine ⟨_, ⟨_, rfl, ?_, rfl, rfl, rfl⟩, ?_⟩ | refine ⟨_, rfl, ?_, rfl, ?_⟩ | refine ⟨_, (fun _ => rfl), rfl, ?_⟩ | refine ⟨(fun _ => rfl), ?_⟩ | refine ⟨rfl, ?_⟩ | refine Opt.b ?_ | fail)
  · -- turned
    omega
  · refine ⟨s, rfl, rfl, by omega, ?_⟩
    repeat' (first | exact True.intro | refine ⟨_, LeL.refl _, ?_⟩ | refine ⟨_, _, _, LeL.refl _, ?_⟩ | (refine fun (b : Bool) hb => ?_; cases b <;> (first | exact absurd hb (by decide) | exact Bool.noConfusion (show true = false from hb) | exact Bool.noConfusion (show false = true from hb) | skip)) | (refine fun (hl : _ ≤ MAXL) => ?_) | refine And.intro (a := I64 _) ?_ ?_ | refine And.intro (a := _ ≤ 140737488355328) ?_ ?_ | refine ⟨_, ⟨rfl, rfl⟩, ?_⟩ | refine ⟨_, And.intro (a := I64 _) ?_ ⟨rfl, rfl⟩, ?_⟩ | refine ⟨_, _, ⟨rfl, rfl⟩, ?_⟩ | refine ⟨_, (fun _ => ⟨rfl, rfl⟩), ?_⟩ | refine And.intro (a := chkPend _ _ _ _ _ _) ?_ ?_ | refine And.intro (a := chkPast _ _ _ _ _ _ _ _) ?_ ?_ | refine ⟨⟨rfl, rfl⟩, ?_⟩ | refine And.intro (And.intro rfl rfl) ?_ | refine ⟨True.intro, ?_⟩ | refine ⟨_, ⟨_, rfl, ?_, rfl, rfl, rfl⟩, ?_⟩ | refine ⟨_, rfl, ?_, rfl, ?_⟩ | refine ⟨_, (fun _ => rfl), rfl, ?_⟩ | refine ⟨(fun _ => rfl), ?_⟩ | refine ⟨rfl, ?_⟩ | refine Opt.a ?_ | fail)
    refine ⟨s.reverse, rfl, rfl, ?_⟩
    repeat' (first | exact True.intro | refine ⟨_, LeL.refl _, ?_⟩ | refine ⟨_, _, _, LeL.refl _, ?_⟩ | (refine fun (b : Bool) hb => ?_; cases b <;> (first | exact absurd hb (by decide) | exact Bool.noConfusion (show true = false from hb) | exact Bool.noConfusion (show false = true from hb) | skip)) | (refine fun (hl : _ ≤ MAXL) => ?_) | refine And.intro (a := I64 _) ?_ ?_ | refine And.intro (a := _ ≤ 140737488355328) ?_ ?_ | refine ⟨_, ⟨rfl, rfl⟩, ?_⟩ | refine ⟨_, And.intro (a := I64 _) ?_ ⟨rfl, rfl⟩, ?_⟩ | refine ⟨_, _, ⟨rfl, rfl⟩, ?_⟩ | refine ⟨_, (fun _ => ⟨rfl, rfl⟩), ?_⟩ | refine And.intro (a := chkPend _ _ _ _ _ _) ?_ ?_ | refine And.intro (a := chkPast _ _ _ _ _ _ _ _) ?_ ?_ | refine ⟨⟨rfl, rfl⟩, ?_⟩ | refine And.intro (And.intro rfl rfl) ?_ | refine ⟨True.intro, ?_⟩ | refine ⟨_, ⟨_, rfl, ?_, rfl, rfl, rfl⟩, ?_⟩ | refine ⟨_, rfl, ?_, rfl, ?_⟩ | refine ⟨_, (fun _ => rfl), rfl, ?_⟩ | refine ⟨(fun _ => rfl), ?_⟩ | refine ⟨rfl, ?_⟩ | refine Opt.a ?_ | fail)
    have h1 : ¬ c.kind = 1 := of_decide_eq_false (by assumption)
    have h2 : ¬ c.kind = 2 := of_decide_eq_false (by assumption)
    have h3 : ¬ c.kind = 3 := of_decide_eq_false (by assumption)
    have h4 : ¬ c.kind = 4 := of_decide_eq_false (by assumption)
    rw [if_neg h1, if_neg h2, if_neg h3, if_neg h4] at hone
    exact hone _ rfl
  · -- a field
    have h4 : c.kind = 4 := of_decide_eq_true (by assumption)
    have := hcn h4
    refine ⟨s, [32], rfl, ⟨by omega, by decide⟩, ?_⟩
    rw [if_neg (by omega), if_neg (by omega), if_neg (by omega), if_pos h4] at hone
    repeat' (first | exact True.intro | refine ⟨_, LeL.refl _, ?_⟩ | refine ⟨_, _, _, LeL.refl _, ?_⟩ | (refine fun (b : Bool) hb => ?_; cases b <;> (first | exact absurd hb (by decide) | exact Bool.noConfusion (show true = false from hb) | exact Bool.noConfusion (show false = true from hb) | skip)) | (refine fun (hl : _ ≤ MAXL) => ?_) | refine And.intro (a := I64 _) ?_ ?_ | refine And.intro (a := _ ≤ 140737488355328) ?_ ?_ | refine ⟨_, ⟨rfl, rfl⟩, ?_⟩ | refine ⟨_, And.intro (a := I64 _) ?_ ⟨rfl, rfl⟩, ?_⟩ | refine ⟨_, _, ⟨rfl, rfl⟩, ?_⟩ | refine ⟨_, (fun _ => ⟨rfl, rfl⟩), ?_⟩ | refine And.intro (a := chkPend _ _ _ _ _ _) ?_ ?_ | refine And.intro (a := chkPast _ _ _ _ _ _ _ _) ?_ ?_ | refine ⟨⟨rfl, rfl⟩, ?_⟩ | refine And.intro (And.intro rfl rfl) ?_ | refine ⟨True.intro, ?_⟩ | refine ⟨_, ⟨_, rfl, ?_, rfl, rfl, rfl⟩, ?_⟩ | refine ⟨_, rfl, ?_, rfl, ?_⟩ | refine ⟨_, (fun _ => rfl), rfl, ?_⟩ | refine ⟨(fun _ => rfl), ?_⟩ | refine ⟨rfl, ?_⟩ | refine Opt.a ?_ | fail)
    · have hle : ¬ ((Lib.split s [32]).length : Int) < c.n := of_decide_eq_false (by assumption)
      (first | omega | (unfold I64; omega) | (simp only [List.length_append, List.length_map, List.length_cons, List.length_nil, Nat.mul_one, Int.ofNat_eq_natCast] at *; omega) | (dsimp only at *; omega) | (unfold I64; dsimp only at *; omega) | (unfold I64; grind) | grind)
    · have hle : ¬ ((Lib.split s [32]).length : Int) < c.n := of_decide_eq_false (by assumption)
      have hlt : (c.n - 1).toNat < (Lib.split s [32]).length := by omega
      refine ⟨(c.n - 1).toNat, by omega, hlt, rfl, ?_⟩
      repeat' (first | exact True.intro | refine ⟨_, LeL.refl _, ?_⟩ | refine ⟨_, _, _, LeL.refl _, ?_⟩ | (refine fun (b : Bool) hb => ?_; cases b <;> (first | exact absurd hb (by decide) | exact Bool.noConfusion (show true = false from hb) | exact Bool.noConfusion (show false = true from hb) | skip)) | (refine fun (hl : _ ≤ MAXL) => ?_) | refine And.intro (a := I64 _) ?_ ?_ | refine And.intro (a := _ ≤ 140737488355328) ?_ ?_ | refine ⟨_, ⟨rfl, rfl⟩, ?_⟩ | refine ⟨_, And.intro (a := I64 _) ?_ ⟨rfl, rfl⟩, ?_⟩ | refine ⟨_, _, ⟨rfl, rfl⟩, ?_⟩ | refine ⟨_, (fun _ => ⟨rfl, rfl⟩), ?_⟩ | refine And.intro (a := chkPend _ _ _ _ _ _) ?_ ?_ | refine And.intro (a := chkPast _ _ _ _ _ _ _ _) ?_ ?_ | refine ⟨⟨rfl, rfl⟩, ?_⟩ | refine And.intro (And.intro rfl rfl) ?_ | refine ⟨True.intro, ?_⟩ | refine ⟨_, ⟨_, rfl, ?_, rfl, rfl, rfl⟩, ?_⟩ | refine ⟨_, rfl, ?_, rfl, ?_⟩ | refine ⟨_, (fun _ => rfl), rfl, ?_⟩ | refine ⟨(fun _ => rfl), ?_⟩ | refine ⟨rfl, ?_⟩ | refine Opt.a ?_ | fail)
      rw [if_neg hle] at hone
      have e : (Lib.split s [32]).getD (c.n - 1).toNat [] = (Lib.split s [32])[(c.n - 1).toNat] := by rw [List.getD_eq_getElem?_getD, List.getElem?_eq_getElem hlt]; rfl
      rw [e] at hone
      exact hone _ rfl
    · have hle : ((Lib.split s [32]).length : Int) < c.n := of_decide_eq_true (by assumption)
      rw [if_pos hle] at hone
      exact hone _ rfl
  · -- a byte for another
    have h3 : c.kind = 3 := of_decide_eq_true (by assumption)
    obtain ⟨x, y, hw⟩ := hcw h3
    rw [if_neg (by omega), if_neg (by omega), if_pos h3] at hone
    obtain ⟨ck, cw, cn⟩ := c
    dsimp only at hw
    subst hw
    refine ⟨_, ⟨0, 1, rfl, rfl, by decide, by show 1 ≤ 2; decide, rfl, rfl⟩, ?_⟩
    repeat' (first | exact True.intro | refine ⟨_, LeL.refl _, ?_⟩ | refine ⟨_, _, _, LeL.refl _, ?_⟩ | (refine fun (b : Bool) hb => ?_; cases b <;> (first | exact absurd hb (by decide) | exact Bool.noConfusion (show true = false from hb) | exact Bool.noConfusion (show false = true from hb) | skip)) | (refine fun (hl : _ ≤ MAXL) => ?_) | refine And.intro (a := I64 _) ?_ ?_ | refine And.intro (a := _ ≤ 140737488355328) ?_ ?_ | refine ⟨_, ⟨rfl, rfl⟩, ?_⟩ | refine ⟨_, And.intro (a := I64 _) ?_ ⟨rfl, rfl⟩, ?_⟩ | refine ⟨_, _, ⟨rfl, rfl⟩, ?_⟩ | refine ⟨_, (fun _ => ⟨rfl, rfl⟩), ?_⟩ | refine And.intro (a := chkPend _ _ _ _ _ _) ?_ ?_ | refine And.intro (a := chkPast _ _ _ _ _ _ _ _) ?_ ?_ | refine ⟨⟨rfl, rfl⟩, ?_⟩ | refine And.intro (And.intro rfl rfl) ?_ | refine ⟨True.intro, ?_⟩ | refine ⟨_, ⟨_, rfl, ?_, rfl, rfl, rfl⟩, ?_⟩ | refine ⟨_, rfl, ?_, rfl, ?_⟩ | refine ⟨_, (fun _ => rfl), rfl, ?_⟩ | refine ⟨(fun _ => rfl), ?_⟩ | refine ⟨rfl, ?_⟩ | refine Opt.a ?_ | fail)
    conv => whnf
    refine ⟨_, ⟨1, 2, rfl, rfl, by decide, by show 2 ≤ 2; decide, rfl, rfl⟩, ?_⟩
    repeat' (first | exact True.intro | refine ⟨_, LeL.refl _, ?_⟩ | refine ⟨_, _, _, LeL.refl _, ?_⟩ | (refine fun (b : Bool) hb => ?_; cases b <;> (first | exact absurd hb (by decide) | exact Bool.noConfusion (show true = false from hb) | exact Bool.noConfusion (show false = true from hb) | skip)) | (refine fun (hl : _ ≤ MAXL) => ?_) | refine And.intro (a := I64 _) ?_ ?_ | refine And.intro (a := _ ≤ 140737488355328) ?_ ?_ | refine ⟨_, ⟨rfl, rfl⟩, ?_⟩ | refine ⟨_, And.intro (a := I64 _) ?_ ⟨rfl, rfl⟩, ?_⟩ | refine ⟨_, _, ⟨rfl, rfl⟩, ?_⟩ | refine ⟨_, (fun _ => ⟨rfl, rfl⟩), ?_⟩ | refine And.intro (a := chkPend _ _ _ _ _ _) ?_ ?_ | refine And.intro (a := chkPast _ _ _ _ _ _ _ _) ?_ ?_ | refine ⟨⟨rfl, rfl⟩, ?_⟩ | refine And.intro (And.intro rfl rfl) ?_ | refine ⟨True.intro, ?_⟩ | refine ⟨_, ⟨_, rfl, ?_, rfl, rfl, rfl⟩, ?_⟩ | refine ⟨_, rfl, ?_, rfl, ?_⟩ | refine ⟨_, (fun _ => rfl), rfl, ?_⟩ | refine ⟨(fun _ => rfl), ?_⟩ | refine ⟨rfl, ?_⟩ | refine Opt.a ?_ | fail)
    have hr := replace_one x y s
    have hl : (Lib.replaceAll s [x] [y]).length = s.length := by rw [hr]; simp
    have hcs : Lib.count s [x] ≤ s.length := by rw [Lib.count_one]; exact List.count_le_length
    apply Exists.intro
    apply And.intro
    · refine ⟨s, [x], [y], rfl, ⟨by omega, by show 1 ≤ 1; decide, by show s.length + Lib.count s [x] * 1 ≤ _; omega, by rw [hl]; unfold MAXL; omega⟩, ?_⟩
      exact ⟨rfl, rfl⟩
    repeat' (first | exact True.intro | refine ⟨_, LeL.refl _, ?_⟩ | refine ⟨_, _, _, LeL.refl _, ?_⟩ | (refine fun (b : Bool) hb => ?_; cases b <;> (first | exact absurd hb (by decide) | exact Bool.noConfusion (show true = false from hb) | exact Bool.noConfusion (show false = true from hb) | skip)) | (refine fun (hl : _ ≤ MAXL) => ?_) | refine And.intro (a := I64 _) ?_ ?_ | refine And.intro (a := _ ≤ 140737488355328) ?_ ?_ | refine ⟨_, ⟨rfl, rfl⟩, ?_⟩ | refine ⟨_, And.intro (a := I64 _) ?_ ⟨rfl, rfl⟩, ?_⟩ | refine ⟨_, _, ⟨rfl, rfl⟩, ?_⟩ | refine ⟨_, (fun _ => ⟨rfl, rfl⟩), ?_⟩ | refine And.intro (a := chkPend _ _ _ _ _ _) ?_ ?_ | refine And.intro (a := chkPast _ _ _ _ _ _ _ _) ?_ ?_ | refine ⟨⟨rfl, rfl⟩, ?_⟩ | refine And.intro (And.intro rfl rfl) ?_ | refine ⟨True.intro, ?_⟩ | refine ⟨_, ⟨_, rfl, ?_, rfl, rfl, rfl⟩, ?_⟩ | refine ⟨_, rfl, ?_, rfl, ?_⟩ | refine ⟨_, (fun _ => rfl), rfl, ?_⟩ | refine ⟨(fun _ => rfl), ?_⟩ | refine ⟨rfl, ?_⟩ | refine Opt.a ?_ | fail)
    exact hone _ rfl
  · have h : c.kind = 2 := of_decide_eq_true (by assumption)
    refine ⟨s, c.word, rfl, by omega, ?_⟩
    repeat' (first | exact True.intro | refine ⟨_, LeL.refl _, ?_⟩ | refine ⟨_, _, _, LeL.refl _, ?_⟩ | (refine fun (b : Bool) hb => ?_; cases b <;> (first | exact absurd hb (by decide) | exact Bool.noConfusion (show true = false from hb) | exact Bool.noConfusion (show false = true from hb) | skip)) | (refine fun (hl : _ ≤ MAXL) => ?_) | refine And.intro (a := I64 _) ?_ ?_ | refine And.intro (a := _ ≤ 140737488355328) ?_ ?_ | refine ⟨_, ⟨rfl, rfl⟩, ?_⟩ | refine ⟨_, And.intro (a := I64 _) ?_ ⟨rfl, rfl⟩, ?_⟩ | refine ⟨_, _, ⟨rfl, rfl⟩, ?_⟩ | refine ⟨_, (fun _ => ⟨rfl, rfl⟩), ?_⟩ | refine And.intro (a := chkPend _ _ _ _ _ _) ?_ ?_ | refine And.intro (a := chkPast _ _ _ _ _ _ _ _) ?_ ?_ | refine ⟨⟨rfl, rfl⟩, ?_⟩ | refine And.intro (And.intro rfl rfl) ?_ | refine ⟨True.intro, ?_⟩ | refine ⟨_, ⟨_, rfl, ?_, rfl, rfl, rfl⟩, ?_⟩ | refine ⟨_, rfl, ?_, rfl, ?_⟩ | refine ⟨_, (fun _ => rfl), rfl, ?_⟩ | refine ⟨(fun _ => rfl), ?_⟩ | refine ⟨rfl, ?_⟩ | refine Opt.a ?_ | fail)
    rw [if_neg (by omega), if_pos h] at hone
    exact hone _ rfl
  · have h : c.kind = 1 := of_decide_eq_true (by assumption)
    refine ⟨s, c.word, rfl, by omega, ?_⟩
    repeat' (first | exact True.intro | refine ⟨_, LeL.refl _, ?_⟩ | refine ⟨_, _, _, LeL.refl _, ?_⟩ | (refine fun (b : Bool) hb => ?_; cases b <;> (first | exact absurd hb (by decide) | exact Bool.noConfusion (show true = false from hb) | exact Bool.noConfusion (show false = true from hb) | skip)) | (refine fun (hl : _ ≤ MAXL) => ?_) | refine And.intro (a := I64 _) ?_ ?_ | refine And.intro (a := _ ≤ 140737488355328) ?_ ?_ | refine ⟨_, ⟨rfl, rfl⟩, ?_⟩ | refine ⟨_, And.intro (a := I64 _) ?_ ⟨rfl, rfl⟩, ?_⟩ | refine ⟨_, _, ⟨rfl, rfl⟩, ?_⟩ | refine ⟨_, (fun _ => ⟨rfl, rfl⟩), ?_⟩ | refine And.intro (a := chkPend _ _ _ _ _ _) ?_ ?_ | refine And.intro (a := chkPast _ _ _ _ _ _ _ _) ?_ ?_ | refine ⟨⟨rfl, rfl⟩, ?_⟩ | refine And.intro (And.intro rfl rfl) ?_ | refine ⟨True.intro, ?_⟩ | refine ⟨_, ⟨_, rfl, ?_, rfl, rfl, rfl⟩, ?_⟩ | refine ⟨_, rfl, ?_, rfl, ?_⟩ | refine ⟨_, (fun _ => rfl), rfl, ?_⟩ | refine ⟨(fun _ => rfl), ?_⟩ | refine ⟨rfl, ?_⟩ | refine Opt.a ?_ | fail)
    rw [if_pos h] at hone
    exact hone _ rfl
end Gv
namespace Gv
variable [Glob] [Laid]
theorem sortS_ca : callable Tryz.prog 159 = true := by kernel_rfl
def sortS_P : PSpec := fun args rows K => (∃ (l : List Bs), args = [.own 0] ∧ rows = [.row 1 (l.map strV)] ∧ l.length < 4611686018427387904 ∧ K (.tup []) [.row 1 ((sortB l).map strV)]) ∨ (args = [.nil] ∧ rows = [] ∧ K (.tup []) [])
set_option maxHeartbeats 4000000 in
theorem sortS_prim : PrimOK Tryz.prog 159 sortS_P := by
  intro w0 m0 args rows k R m q w us C hv hT
  rcases hT with ⟨l, rfl, rfl, hl, hK⟩ | ⟨rfl, rfl, hK⟩
  rotate_left
  · obtain ⟨u, rfl, hu⟩ := vrl_one hv
    refine ⟨sortS_ca, ?_⟩
    cases hu
    refine (Tryz.slices_Sort_string_none none 0 w).mono fun e w' ⟨he, hw⟩ => ?_
    subst hw
    exact ⟨_, he, _, _, _, _, _, hK, C, Mem.Le.refl m, Loc.Le.refl q, .tup (us := []) rfl fun i v u h => by simp at h⟩
  obtain ⟨u, rfl, hu⟩ := vrl_one hv
  refine ⟨sortS_ca, ?_⟩
  rcases own_strs C hu with ⟨rfl, rfl⟩ | ⟨b, cap, arr, T, fz, rfl, h1, h2, h3, h4, h5, h6, h7, h8⟩
  · refine (Tryz.slices_Sort_string_none none 0 w).mono fun e w' ⟨he, hw⟩ => ?_
    subst hw
    have e : sortB ([] : List Bs) = [] := by simp [sortB]
    rw [e] at hK
    exact ⟨_, he, _, _, _, _, _, hK, C, Mem.Le.refl m, Loc.Le.refl q, .tup (us := []) rfl fun i v u h => by simp at h⟩
  · have hblk := C.sit.lt h4
    refine (Tryz.slices_Sort_string b 0 cap l w h7 hblk hl).mono fun e w' ⟨he, n, os, hw⟩ => ?_
    obtain ⟨g1, g2⟩ := sorted_world (C.sit.own _ _ h4).2.1 hw
    have C2 := C.strs_put (l' := sortB l) h3 h4 h5 h6 h2 h1 (sortB_len l) (fun x hx => h8 x ((sortB_perm l).mem_iff.1 hx)) g1 g2
    exact ⟨_, he, _, _, _, _, _, hK, C2, Mem.Le.refl m, Loc.Le.refl q, .tup (us := []) rfl fun i v u h => by simp at h⟩
end Gv
namespace Gv
variable [Glob] [Laid]
theorem compactS_ca : callable Tryz.prog 160 = true := by kernel_rfl
def compactS_P : PSpec := fun args rows K => (∃ (l : List Bs), args = [.own 0] ∧ rows = [.row 1 (l.map strV)] ∧ K (.own 1) [.dead, .row 1 ((onceB l).map strV)]) ∨ (args = [.nil] ∧ rows = [] ∧ K .nil [])
set_option maxHeartbeats 4000000 in
theorem compactS_prim : PrimOK Tryz.prog 160 compactS_P := by
  intro w0 m0 args rows k R m q w us C hv hT
  rcases hT with ⟨l, rfl, rfl, hK⟩ | ⟨rfl, rfl, hK⟩
  rotate_left
  · obtain ⟨u, rfl, hu⟩ := vrl_one hv
    refine ⟨compactS_ca, ?_⟩
    cases hu
    refine (Tryz.slices_Compact_string_empty none 0 w).mono fun e w' ⟨he, hw⟩ => ?_
    subst hw
    exact ⟨_, he, _, _, _, _, _, hK, C, Mem.Le.refl m, Loc.Le.refl q, .nil⟩
  obtain ⟨u, rfl, hu⟩ := vrl_one hv
  refine ⟨compactS_ca, ?_⟩
  rcases own_strs C hu with ⟨rfl, rfl⟩ | ⟨b, cap, arr, T, fz, rfl, h1, h2, h3, h4, h5, h6, h7, h8⟩
  · refine (Tryz.slices_Compact_string_empty none 0 w).mono fun e w' ⟨he, hw⟩ => ?_
    subst hw
    have C1 := C.kill (r := 0) rfl
    have C2 := C1.row0 1
    refine ⟨_, he, _, _, _, _, _, hK, C2, Mem.Le.refl m, C1.le_add _, ?_⟩
    exact VR.own (add_self q 1 (none, 0, 0, 1))
  · have hw0 := (C.sit.own _ _ h4).2.1
    refine (Tryz.slices_Compact_string b 0 cap l w h7 (by unfold MAXL at h2; omega) h1).mono fun e w' ⟨he, n, hw⟩ => ?_
    obtain ⟨g1, g2⟩ := sorted_world (w' := w') (n := n) (d := (Lib.compact l ++ List.replicate (l.length - (Lib.compact l).length) ([] : Bs)).toArray) (os := #[]) hw0 (by rw [hw, Go.Sort.grow_empty])
    have S' := C.sit.write h4 g1 g2
    have hlen : (Lib.compact l ++ List.replicate (l.length - (Lib.compact l).length) ([] : Bs)).length ≤ cap := by
      have := onceB_len l
      unfold onceB at this
      simp
      omega
    have he' : ElsR m 1 ((onceB l).map strV) (Go.Sort.putCells Go.Proofs.encStr 0 (Lib.compact l ++ List.replicate (l.length - (Lib.compact l).length) ([] : Bs)).toArray arr) := fun i x hi => by
      have hx := els_put (m := m) (l := l) (l' := Lib.compact l ++ List.replicate (l.length - (Lib.compact l).length) ([] : Bs)) h5 hlen (fun x hx => by
        rcases List.mem_append.1 hx with hx | hx
        · exact h8 x (onceB_sub l x hx)
        · rw [(List.mem_replicate.1 hx).2]; exact Nat.zero_le _)
      refine hx i x ?_
      rw [List.map_append, List.getElem?_append_left (show i < ((Lib.compact l).map strV).length from (List.getElem?_eq_some_iff.1 hi).1)]
      exact hi
    have e0 : ([Row.row 1 (l.map strV)].set 0 Row.dead ++ [.row 1 ((onceB l).map strV)]) = [.dead, .row 1 ((onceB l).map strV)] := rfl
    have C2 := C.move (r := 0) (y := .row 1 ((onceB l).map strV)) (n' := (onceB l).length) (c' := cap) (k' := 1) rfl rfl h3 S' ⟨some b, cap, by simp [add_self], by simp; have := onceB_len l; omega, h2, (fun h => by cases h), fun b' e => by
      cases e
      exact ⟨_, T, fz, by simp [Mem.put], by rw [putCells_size]; exact h5, he', by rw [putCells_size]; exact h6⟩⟩
    refine ⟨_, he, _, _, _, _, _, hK, C2, Mem.Le.refl m, C.le_add _, ?_⟩
    exact VR.own (add_self q 1 (some b, (onceB l).length, cap, 1))
end Gv
namespace Gv
variable [Glob] [Laid] [Nums]
theorem linesC_ca : callable Tryz.prog 98 = true := by kernel_rfl
def linesC_S : Spec := fun args K => ∃ (c : Cmd) (l : List Bs), args = [cmdV c, .sl strV l] ∧ (checkCmd c = 0 ∧ l.length ≤ 100000 ∧ ∀ s ∈ l, s.length ≤ 100000) ∧ K (.sl strV (linesC c l))
noncomputable def linesC_lib : List (Nat × Spec) := [(161, one_S), (107, itoa_S)]
noncomputable def linesC_fns : List (Nat × FnI) := [(113, {fn := Tryz.f113, hooks := [], draws := []})]
noncomputable def linesC_prims : List (Nat × PSpec) := [(159, sortS_P), (160, compactS_P)]
theorem linesC_E : EnvOK ⟨Tryz.prog, tys, linesC_lib, linesC_fns, linesC_prims, []⟩ := env_ok mixed0 tys0 (.cons one_ca one_ok (.cons itoa_ca itoa_ok .nil)) (.cons (by kernel_rfl) ⟨Tryz.func113, by kernel_rfl, by kernel_rfl⟩ .nil) (.cons sortS_prim (.cons compactS_prim .nil)) rfl
set_option maxHeartbeats 4000000 in
theorem linesC_ok : Pure Tryz.prog 98 linesC_S := by
  refine pure_by linesC_E 6 (fi := {fn := Tryz.f98, hooks := [], draws := []}) ⟨Tryz.func98, by kernel_rfl, by kernel_rfl⟩ ?_
  rintro _ K ⟨c, l, rfl, ⟨hc, hl, hs⟩, hK⟩
  replace hK : ∀ r, r = .sl strV (linesC c l) → K r := fun r h => h ▸ hK
  have hcn : c.kind = 9 ∨ c.kind = 10 → 1 ≤ c.n ∧ c.n ≤ 1000 := fun h => by
    unfold checkCmd useN at hc
    grind
  have hone : ∀ r : List Bs, linesC c l = r → K (.sl strV r) := fun r h => hK _ (by rw [h])
  unfold linesC at hone
  repeat' (first | exact True.intro | refine ⟨_, LeL.refl _, ?_⟩ | refine ⟨_, _, _, LeL.refl _, ?_⟩ | (refine fun (b : Bool) hb => ?_; cases b <;> (first | exact absurd hb (by decide) | exact Bool.noConfusion (show true = false from hb) | exact Bool.noConfusion (show false = true from hb) | skip)) | (refine fun (hl : _ ≤ MAXL) => ?_) | refine And.intro (a := I64 _) ?_ ?_ | refine And.intro (a := _ ≤ 140737488355328) ?_ ?_ | refine ⟨_, ⟨rfl, rfl⟩, ?_⟩ | refine ⟨_, And.intro (a := I64 _) ?_ ⟨rfl, rfl⟩, ?_⟩ | refine ⟨_, _, ⟨rfl, rfl⟩, ?_⟩ | refine ⟨_, (fun _ => ⟨rfl, rfl⟩), ?_⟩ | refine And.intro (a := chkPend _ _ _ _ _ _) ?_ ?_ | refine And.intro (a := chkPast _ _ _ _ _ _ _ _) ?_ ?_ | refine ⟨⟨rfl, rfl⟩, ?_⟩ | refine And.intro (And.intro rfl rfl) ?_ | refine ⟨True.intro, ?_⟩ | refine ⟨_, ⟨_, rfl, ?_, rfl, rfl, rfl⟩, ?_⟩ | refine ⟨_, rfl, ?_, rfl, ?_⟩ | refine ⟨_, (fun _ => rfl), rfl, ?_⟩ | refine ⟨(fun _ => rfl), ?_⟩ | refine ⟨rfl, ?_⟩ | refine Opt.a ?_ | fail)
  · -- one line at a time
    have h6 : ¬ c.kind = 6 := of_decide_eq_false (by assumption)
    have h7 : ¬ c.kind = 7 := of_decide_eq_false (by assumption)
    have h8 : ¬ c.kind = 8 := of_decide_eq_false (by assumption)
    have h9 : ¬ c.kind = 9 := of_decide_eq_false (by assumption)
    have h10 : ¬ c.kind = 10 := of_decide_eq_false (by assumption)
    rw [if_neg h6, if_neg h7, if_neg h8, if_neg h9, if_neg h10] at hone
    conv => whnf
    refine loop_live [2, 51, 52] (σ := Nat × List Bs) (fun s => [(53, .int .i64 s.1), (5, .own 1)]) (fun s => [.box (cmdV c).cells, .row 1 (s.2.map strV)]) (fun s => s.2 = (l.take s.1).filterMap (outC c) ∧ s.1 ≤ l.length) (fun s => l.length - s.1) (0, []) ?_
    conv => whnf
    refine ⟨(by (refine wk_auto ?_; refine Sel4.mk rfl rfl ?_ ?_ <;> (repeat' (first | exact True.intro | exact rfl | exact Or.inl rfl | exact Or.inr rfl | refine And.intro ?_ ?_ | fail)))), ⟨by simp, Nat.zero_le _⟩, fun s hs => ?_⟩
    obtain ⟨i, out⟩ := s
    obtain ⟨ho, hi⟩ := hs
    dsimp only at ho hi
    have hol : out.length ≤ 100000 := by
      rw [ho]
      have := List.length_filterMap_le (outC c) (l.take i)
      simp only [List.length_take] at this
      omega
    repeat' (first | exact True.intro | refine ⟨_, LeL.refl _, ?_⟩ | refine ⟨_, _, _, LeL.refl _, ?_⟩ | (refine fun (b : Bool) hb => ?_; cases b <;> (first | exact absurd hb (by decide) | exact Bool.noConfusion (show true = false from hb) | exact Bool.noConfusion (show false = true from hb) | skip)) | (refine fun (hl : _ ≤ MAXL) => ?_) | refine And.intro (a := I64 _) ?_ ?_ | refine And.intro (a := _ ≤ 140737488355328) ?_ ?_ | refine ⟨_, ⟨rfl, rfl⟩, ?_⟩ | refine ⟨_, And.intro (a := I64 _) ?_ ⟨rfl, rfl⟩, ?_⟩ | refine ⟨_, _, ⟨rfl, rfl⟩, ?_⟩ | refine ⟨_, (fun _ => ⟨rfl, rfl⟩), ?_⟩ | refine And.intro (a := chkPend _ _ _ _ _ _) ?_ ?_ | refine And.intro (a := chkPast _ _ _ _ _ _ _ _) ?_ ?_ | refine ⟨⟨rfl, rfl⟩, ?_⟩ | refine And.intro (And.intro rfl rfl) ?_ | refine ⟨True.intro, ?_⟩ | refine ⟨_, ⟨_, rfl, ?_, rfl, rfl, rfl⟩, ?_⟩ | refine ⟨_, rfl, ?_, rfl, ?_⟩ | refine ⟨_, (fun _ => rfl), rfl, ?_⟩ | refine ⟨(fun _ => rfl), ?_⟩ | refine ⟨rfl, ?_⟩ | refine Opt.a ?_ | fail)
    · have h : ¬ (i : Int) < (l.length : Int) := of_decide_eq_false (by assumption)
      have e : i = l.length := by omega
      rw [e, List.take_length] at ho
      conv => whnf
      exact hone _ ho.symm
    all_goals have hlt : i < l.length := by grind
    · exact hlt
    refine ⟨c, l[i], rfl, ⟨hc, hs _ (List.getElem_mem hlt)⟩, ?_⟩
    have hnx : (l.take (i + 1)).filterMap (outC c) = out ++ (match oneC c l[i] with | (t, true) => [t] | (_, false) => []) := by
      rw [List.take_succ_eq_append_getElem hlt, List.filterMap_append, ← ho]
      congr 1
      simp only [List.filterMap_cons, List.filterMap_nil]
      unfold outC
      generalize oneC c l[i] = p
      obtain ⟨t, b⟩ := p
      cases b <;> rfl
    obtain ⟨p, hp⟩ : ∃ p, oneC c l[i] = p := ⟨_, rfl⟩
    rw [hp] at hnx ⊢
    obtain ⟨t, b⟩ := p
    cases b
    · repeat' (first | exact True.intro | refine ⟨_, LeL.refl _, ?_⟩ | refine ⟨_, _, _, LeL.refl _, ?_⟩ | (refine fun (b : Bool) hb => ?_; cases b <;> (first | exact absurd hb (by decide) | exact Bool.noConfusion (show true = false from hb) | exact Bool.noConfusion (show false = true from hb) | skip)) | (refine fun (hl : _ ≤ MAXL) => ?_) | refine And.intro (a := I64 _) ?_ ?_ | refine And.intro (a := _ ≤ 140737488355328) ?_ ?_ | refine ⟨_, ⟨rfl, rfl⟩, ?_⟩ | refine ⟨_, And.intro (a := I64 _) ?_ ⟨rfl, rfl⟩, ?_⟩ | refine ⟨_, _, ⟨rfl, rfl⟩, ?_⟩ | refine ⟨_, (fun _ => ⟨rfl, rfl⟩), ?_⟩ | refine And.intro (a := chkPend _ _ _ _ _ _) ?_ ?_ | refine And.intro (a := chkPast _ _ _ _ _ _ _ _) ?_ ?_ | refine ⟨⟨rfl, rfl⟩, ?_⟩ | refine And.intro (And.intro rfl rfl) ?_ | refine ⟨True.intro, ?_⟩ | refine ⟨_, ⟨_, rfl, ?_, rfl, rfl, rfl⟩, ?_⟩ | refine ⟨_, rfl, ?_, rfl, ?_⟩ | refine ⟨_, (fun _ => rfl), rfl, ?_⟩ | refine ⟨(fun _ => rfl), ?_⟩ | refine ⟨rfl, ?_⟩ | refine Opt.a ?_ | fail)
      · (first | omega | (unfold I64; omega) | (simp only [List.length_append, List.length_map, List.length_cons, List.length_nil, Nat.mul_one, Int.ofNat_eq_natCast] at *; omega) | (dsimp only at *; omega) | (unfold I64; dsimp only at *; omega) | (unfold I64; grind) | grind)
      refine ⟨(i + 1, out), (by (refine wk_auto ?_; refine Sel4.mk rfl rfl ?_ ?_ <;> (repeat' (first | exact True.intro | exact rfl | exact Or.inl rfl | exact Or.inr rfl | refine And.intro ?_ ?_ | fail)))), ⟨?_, hlt⟩, ?_⟩
      · show out = _
        rw [hnx]
        simp
      · show l.length - (i + 1) < l.length - i
        omega
    · repeat' (first | exact True.intro | refine ⟨_, LeL.refl _, ?_⟩ | refine ⟨_, _, _, LeL.refl _, ?_⟩ | (refine fun (b : Bool) hb => ?_; cases b <;> (first | exact absurd hb (by decide) | exact Bool.noConfusion (show true = false from hb) | exact Bool.noConfusion (show false = true from hb) | skip)) | (refine fun (hl : _ ≤ MAXL) => ?_) | refine And.intro (a := I64 _) ?_ ?_ | refine And.intro (a := _ ≤ 140737488355328) ?_ ?_ | refine ⟨_, ⟨rfl, rfl⟩, ?_⟩ | refine ⟨_, And.intro (a := I64 _) ?_ ⟨rfl, rfl⟩, ?_⟩ | refine ⟨_, _, ⟨rfl, rfl⟩, ?_⟩ | refine ⟨_, (fun _ => ⟨rfl, rfl⟩), ?_⟩ | refine And.intro (a := chkPend _ _ _ _ _ _) ?_ ?_ | refine And.intro (a := chkPast _ _ _ _ _ _ _ _) ?_ ?_ | refine ⟨⟨rfl, rfl⟩, ?_⟩ | refine And.intro (And.intro rfl rfl) ?_ | refine ⟨True.intro, ?_⟩ | refine ⟨_, ⟨_, rfl, ?_, rfl, rfl, rfl⟩, ?_⟩ | refine ⟨_, rfl, ?_, rfl, ?_⟩ | refine ⟨_, (fun _ => rfl), rfl, ?_⟩ | refine ⟨(fun _ => rfl), ?_⟩ | refine ⟨rfl, ?_⟩ | refine Opt.a ?_ | fail)
      · show ((out.map strV).length + 1) * 16 ≤ 140737488355328
        rw [List.length_map]
        omega
      · (first | omega | (unfold I64; omega) | (simp only [List.length_append, List.length_map, List.length_cons, List.length_nil, Nat.mul_one, Int.ofNat_eq_natCast] at *; omega) | (dsimp only at *; omega) | (unfold I64; dsimp only at *; omega) | (unfold I64; grind) | grind)
      refine ⟨(i + 1, out ++ [t]), ?_, ⟨?_, hlt⟩, ?_⟩
      rotate_left
      · show out ++ [t] = _
        rw [hnx]
      · show l.length - (i + 1) < l.length - i
        omega
      (refine wk_auto ?_; refine Sel4.mk rfl rfl ?_ ?_ <;> (repeat' (first | exact True.intro | exact rfl | exact Or.inl rfl | exact Or.inr rfl | refine And.intro ?_ ?_ | fail)))
      show Row.row 1 _ = Row.row 1 _
      simp
      rfl
  · obtain ⟨h1, h2⟩ := hcn (.inr (of_decide_eq_true (by assumption)))
    (first | omega | (unfold I64; omega) | (simp only [List.length_append, List.length_map, List.length_cons, List.length_nil, Nat.mul_one, Int.ofNat_eq_natCast] at *; omega) | (dsimp only at *; omega) | (unfold I64; dsimp only at *; omega) | (unfold I64; grind) | grind)
  · obtain ⟨h1, h2⟩ := hcn (.inr (of_decide_eq_true (by assumption)))
    have h6 : ¬ c.kind = 6 := of_decide_eq_false (by assumption)
    have h7 : ¬ c.kind = 7 := of_decide_eq_false (by assumption)
    have h8 : ¬ c.kind = 8 := of_decide_eq_false (by assumption)
    have h9 : ¬ c.kind = 9 := of_decide_eq_false (by assumption)
    have h10 : c.kind = 10 := of_decide_eq_true (by assumption)
    rw [if_neg h6, if_neg h7, if_neg h8, if_neg h9, if_pos h10] at hone
    conv => whnf
    refine ⟨l.length - c.n.toNat, by omega, by omega, ?_⟩
    repeat' (first | exact True.intro | refine ⟨_, LeL.refl _, ?_⟩ | refine ⟨_, _, _, LeL.refl _, ?_⟩ | (refine fun (b : Bool) hb => ?_; cases b <;> (first | exact absurd hb (by decide) | exact Bool.noConfusion (show true = false from hb) | exact Bool.noConfusion (show false = true from hb) | skip)) | (refine fun (hl : _ ≤ MAXL) => ?_) | refine And.intro (a := I64 _) ?_ ?_ | refine And.intro (a := _ ≤ 140737488355328) ?_ ?_ | refine ⟨_, ⟨rfl, rfl⟩, ?_⟩ | refine ⟨_, And.intro (a := I64 _) ?_ ⟨rfl, rfl⟩, ?_⟩ | refine ⟨_, _, ⟨rfl, rfl⟩, ?_⟩ | refine ⟨_, (fun _ => ⟨rfl, rfl⟩), ?_⟩ | refine And.intro (a := chkPend _ _ _ _ _ _) ?_ ?_ | refine And.intro (a := chkPast _ _ _ _ _ _ _ _) ?_ ?_ | refine ⟨⟨rfl, rfl⟩, ?_⟩ | refine And.intro (And.intro rfl rfl) ?_ | refine ⟨True.intro, ?_⟩ | refine ⟨_, ⟨_, rfl, ?_, rfl, rfl, rfl⟩, ?_⟩ | refine ⟨_, rfl, ?_, rfl, ?_⟩ | refine ⟨_, (fun _ => rfl), rfl, ?_⟩ | refine ⟨(fun _ => rfl), ?_⟩ | refine ⟨rfl, ?_⟩ | refine Opt.a ?_ | fail)
    · show (0 + ((l.drop (l.length - c.n.toNat)).map strV).length) * 16 ≤ 140737488355328
      rw [List.length_map, List.length_drop]
      omega
    · exact hone _ rfl
    · have h : true = true → l.drop (l.length - c.n.toNat) = [] := by assumption
      refine ⟨_, strV, hone _ (h rfl)⟩
  · obtain ⟨h1, h2⟩ := hcn (.inl (of_decide_eq_true (by assumption)))
    have h6 : ¬ c.kind = 6 := of_decide_eq_false (by assumption)
    have h7 : ¬ c.kind = 7 := of_decide_eq_false (by assumption)
    have h8 : ¬ c.kind = 8 := of_decide_eq_false (by assumption)
    have h9 : c.kind = 9 := of_decide_eq_true (by assumption)
    rw [if_neg h6, if_neg h7, if_neg h8, if_pos h9] at hone
    conv => whnf
    have ht : l.take (min c.n.toNat l.length) = l.take c.n.toNat := by
      rw [← List.take_take, List.take_length]
    refine ⟨min c.n.toNat l.length, by omega, by omega, ?_⟩
    repeat' (first | exact True.intro | refine ⟨_, LeL.refl _, ?_⟩ | refine ⟨_, _, _, LeL.refl _, ?_⟩ | (refine fun (b : Bool) hb => ?_; cases b <;> (first | exact absurd hb (by decide) | exact Bool.noConfusion (show true = false from hb) | exact Bool.noConfusion (show false = true from hb) | skip)) | (refine fun (hl : _ ≤ MAXL) => ?_) | refine And.intro (a := I64 _) ?_ ?_ | refine And.intro (a := _ ≤ 140737488355328) ?_ ?_ | refine ⟨_, ⟨rfl, rfl⟩, ?_⟩ | refine ⟨_, And.intro (a := I64 _) ?_ ⟨rfl, rfl⟩, ?_⟩ | refine ⟨_, _, ⟨rfl, rfl⟩, ?_⟩ | refine ⟨_, (fun _ => ⟨rfl, rfl⟩), ?_⟩ | refine And.intro (a := chkPend _ _ _ _ _ _) ?_ ?_ | refine And.intro (a := chkPast _ _ _ _ _ _ _ _) ?_ ?_ | refine ⟨⟨rfl, rfl⟩, ?_⟩ | refine And.intro (And.intro rfl rfl) ?_ | refine ⟨True.intro, ?_⟩ | refine ⟨_, ⟨_, rfl, ?_, rfl, rfl, rfl⟩, ?_⟩ | refine ⟨_, rfl, ?_, rfl, ?_⟩ | refine ⟨_, (fun _ => rfl), rfl, ?_⟩ | refine ⟨(fun _ => rfl), ?_⟩ | refine ⟨rfl, ?_⟩ | refine Opt.a ?_ | fail)
    · show (0 + ((l.take (min c.n.toNat l.length)).map strV).length) * 16 ≤ 140737488355328
      rw [List.length_map, List.length_take]
      omega
    · exact hone _ ht.symm
    · have h : true = true → l.take (min c.n.toNat l.length) = [] := by assumption
      refine ⟨_, strV, hone _ (ht.symm.trans (h rfl))⟩
  · have h6 : ¬ c.kind = 6 := of_decide_eq_false (by assumption)
    have h7 : ¬ c.kind = 7 := of_decide_eq_false (by assumption)
    have h8 : c.kind = 8 := of_decide_eq_true (by assumption)
    rw [if_neg h6, if_neg h7, if_pos h8] at hone
    refine ⟨l.length, rfl, ⟨by omega, by omega⟩, ?_⟩
    repeat' (first | exact True.intro | refine ⟨_, LeL.refl _, ?_⟩ | refine ⟨_, _, _, LeL.refl _, ?_⟩ | (refine fun (b : Bool) hb => ?_; cases b <;> (first | exact absurd hb (by decide) | exact Bool.noConfusion (show true = false from hb) | exact Bool.noConfusion (show false = true from hb) | skip)) | (refine fun (hl : _ ≤ MAXL) => ?_) | refine And.intro (a := I64 _) ?_ ?_ | refine And.intro (a := _ ≤ 140737488355328) ?_ ?_ | refine ⟨_, ⟨rfl, rfl⟩, ?_⟩ | refine ⟨_, And.intro (a := I64 _) ?_ ⟨rfl, rfl⟩, ?_⟩ | refine ⟨_, _, ⟨rfl, rfl⟩, ?_⟩ | refine ⟨_, (fun _ => ⟨rfl, rfl⟩), ?_⟩ | refine And.intro (a := chkPend _ _ _ _ _ _) ?_ ?_ | refine And.intro (a := chkPast _ _ _ _ _ _ _ _) ?_ ?_ | refine ⟨⟨rfl, rfl⟩, ?_⟩ | refine And.intro (And.intro rfl rfl) ?_ | refine ⟨True.intro, ?_⟩ | refine ⟨_, ⟨_, rfl, ?_, rfl, rfl, rfl⟩, ?_⟩ | refine ⟨_, rfl, ?_, rfl, ?_⟩ | refine ⟨_, (fun _ => rfl), rfl, ?_⟩ | refine ⟨(fun _ => rfl), ?_⟩ | refine ⟨rfl, ?_⟩ | refine Opt.a ?_ | fail)
    refine ⟨Bs, strV, [Lib.itoa l.length], LeL.refl _, ?_⟩
    exact hone _ rfl
  · show (0 + (l.map strV).length) * 16 ≤ 140737488355328
    rw [List.length_map]
    omega
  · refine .inl ⟨l, rfl, rfl, ?_⟩
    repeat' (first | exact True.intro | refine ⟨_, LeL.refl _, ?_⟩ | refine ⟨_, _, _, LeL.refl _, ?_⟩ | (refine fun (b : Bool) hb => ?_; cases b <;> (first | exact absurd hb (by decide) | exact Bool.noConfusion (show true = false from hb) | exact Bool.noConfusion (show false = true from hb) | skip)) | (refine fun (hl : _ ≤ MAXL) => ?_) | refine And.intro (a := I64 _) ?_ ?_ | refine And.intro (a := _ ≤ 140737488355328) ?_ ?_ | refine ⟨_, ⟨rfl, rfl⟩, ?_⟩ | refine ⟨_, And.intro (a := I64 _) ?_ ⟨rfl, rfl⟩, ?_⟩ | refine ⟨_, _, ⟨rfl, rfl⟩, ?_⟩ | refine ⟨_, (fun _ => ⟨rfl, rfl⟩), ?_⟩ | refine And.intro (a := chkPend _ _ _ _ _ _) ?_ ?_ | refine And.intro (a := chkPast _ _ _ _ _ _ _ _) ?_ ?_ | refine ⟨⟨rfl, rfl⟩, ?_⟩ | refine And.intro (And.intro rfl rfl) ?_ | refine ⟨True.intro, ?_⟩ | refine ⟨_, ⟨_, rfl, ?_, rfl, rfl, rfl⟩, ?_⟩ | refine ⟨_, rfl, ?_, rfl, ?_⟩ | refine ⟨_, (fun _ => rfl), rfl, ?_⟩ | refine ⟨(fun _ => rfl), ?_⟩ | refine ⟨rfl, ?_⟩ | refine Opt.a ?_ | fail)
    have h6 : ¬ c.kind = 6 := of_decide_eq_false (by assumption)
    have h7 : c.kind = 7 := of_decide_eq_true (by assumption)
    rw [if_neg h6, if_pos h7] at hone
    exact hone _ rfl
  · have h : true = true → l = [] := by assumption
    refine .inr ⟨rfl, rfl, ?_⟩
    repeat' (first | exact True.intro | refine ⟨_, LeL.refl _, ?_⟩ | refine ⟨_, _, _, LeL.refl _, ?_⟩ | (refine fun (b : Bool) hb => ?_; cases b <;> (first | exact absurd hb (by decide) | exact Bool.noConfusion (show true = false from hb) | exact Bool.noConfusion (show false = true from hb) | skip)) | (refine fun (hl : _ ≤ MAXL) => ?_) | refine And.intro (a := I64 _) ?_ ?_ | refine And.intro (a := _ ≤ 140737488355328) ?_ ?_ | refine ⟨_, ⟨rfl, rfl⟩, ?_⟩ | refine ⟨_, And.intro (a := I64 _) ?_ ⟨rfl, rfl⟩, ?_⟩ | refine ⟨_, _, ⟨rfl, rfl⟩, ?_⟩ | refine ⟨_, (fun _ => ⟨rfl, rfl⟩), ?_⟩ | refine And.intro (a := chkPend _ _ _ _ _ _) ?_ ?_ | refine And.intro (a := chkPast _ _ _ _ _ _ _ _) ?_ ?_ | refine ⟨⟨rfl, rfl⟩, ?_⟩ | refine And.intro (And.intro rfl rfl) ?_ | refine ⟨True.intro, ?_⟩ | refine ⟨_, ⟨_, rfl, ?_, rfl, rfl, rfl⟩, ?_⟩ | refine ⟨_, rfl, ?_, rfl, ?_⟩ | refine ⟨_, (fun _ => rfl), rfl, ?_⟩ | refine ⟨(fun _ => rfl), ?_⟩ | refine ⟨rfl, ?_⟩ | refine Opt.a ?_ | fail)
    have h6 : ¬ c.kind = 6 := of_decide_eq_false (by assumption)
    have h7 : c.kind = 7 := of_decide_eq_true (by assumption)
    rw [if_neg h6, if_pos h7, h rfl] at hone
    exact ⟨_, strV, hone [] (by simp [onceB, Lib.compact, Lib.compactUpTo])⟩
  · show (0 + (l.map strV).length) * 16 ≤ 140737488355328
    rw [List.length_map]
    omega
  · refine .inl ⟨l, rfl, rfl, by omega, ?_⟩
    repeat' (first | exact True.intro | refine ⟨_, LeL.refl _, ?_⟩ | refine ⟨_, _, _, LeL.refl _, ?_⟩ | (refine fun (b : Bool) hb => ?_; cases b <;> (first | exact absurd hb (by decide) | exact Bool.noConfusion (show true = false from hb) | exact Bool.noConfusion (show false = true from hb) | skip)) | (refine fun (hl : _ ≤ MAXL) => ?_) | refine And.intro (a := I64 _) ?_ ?_ | refine And.intro (a := _ ≤ 140737488355328) ?_ ?_ | refine ⟨_, ⟨rfl, rfl⟩, ?_⟩ | refine ⟨_, And.intro (a := I64 _) ?_ ⟨rfl, rfl⟩, ?_⟩ | refine ⟨_, _, ⟨rfl, rfl⟩, ?_⟩ | refine ⟨_, (fun _ => ⟨rfl, rfl⟩), ?_⟩ | refine And.intro (a := chkPend _ _ _ _ _ _) ?_ ?_ | refine And.intro (a := chkPast _ _ _ _ _ _ _ _) ?_ ?_ | refine ⟨⟨rfl, rfl⟩, ?_⟩ | refine And.intro (And.intro rfl rfl) ?_ | refine ⟨True.intro, ?_⟩ | refine ⟨_, ⟨_, rfl, ?_, rfl, rfl, rfl⟩, ?_⟩ | refine ⟨_, rfl, ?_, rfl, ?_⟩ | refine ⟨_, (fun _ => rfl), rfl, ?_⟩ | refine ⟨(fun _ => rfl), ?_⟩ | refine ⟨rfl, ?_⟩ | refine Opt.a ?_ | fail)
    have h6 : c.kind = 6 := of_decide_eq_true (by assumption)
    rw [if_pos h6] at hone
    exact hone _ rfl
  · have h : true = true → l = [] := by assumption
    refine .inr ⟨rfl, rfl, ?_⟩
    repeat' (first | exact True.intro | refine ⟨_, LeL.refl _, ?_⟩ | refine ⟨_, _, _, LeL.refl _, ?_⟩ | (refine fun (b : Bool) hb => ?_; cases b <;> (first | exact absurd hb (by decide) | exact Bool.noConfusion (show true = false from hb) | exact Bool.noConfusion (show false = true from hb) | skip)) | (refine fun (hl : _ ≤ MAXL) => ?_) | refine And.intro (a := I64 _) ?_ ?_ | refine And.intro (a := _ ≤ 140737488355328) ?_ ?_ | refine ⟨_, ⟨rfl, rfl⟩, ?_⟩ | refine ⟨_, And.intro (a := I64 _) ?_ ⟨rfl, rfl⟩, ?_⟩ | refine ⟨_, _, ⟨rfl, rfl⟩, ?_⟩ | refine ⟨_, (fun _ => ⟨rfl, rfl⟩), ?_⟩ | refine And.intro (a := chkPend _ _ _ _ _ _) ?_ ?_ | refine And.intro (a := chkPast _ _ _ _ _ _ _ _) ?_ ?_ | refine ⟨⟨rfl, rfl⟩, ?_⟩ | refine And.intro (And.intro rfl rfl) ?_ | refine ⟨True.intro, ?_⟩ | refine ⟨_, ⟨_, rfl, ?_, rfl, rfl, rfl⟩, ?_⟩ | refine ⟨_, rfl, ?_, rfl, ?_⟩ | refine ⟨_, (fun _ => rfl), rfl, ?_⟩ | refine ⟨(fun _ => rfl), ?_⟩ | refine ⟨rfl, ?_⟩ | refine Opt.a ?_ | fail)
    have h6 : c.kind = 6 := of_decide_eq_true (by assumption)
    rw [if_pos h6, h rfl] at hone
    exact ⟨_, strV, hone [] (by simp [sortB])⟩
end Gv
namespace Gv
variable [Glob] [Laid]
theorem concatSL_ca : callable Tryz.prog 186 = true := by kernel_rfl
def concatSL_S : Spec := fun args K => ∃ a : List (List Bs), args = [.sl lsV a] ∧ a.flatten.length ≤ 1000000 ∧ K (.sl strV a.flatten)
noncomputable def concatSL_lib : List (Nat × Spec) := []
noncomputable def concatSL_fns : List (Nat × FnI) := [(252, {fn := Tryz.f252, hooks := [], draws := []})]
noncomputable def concatSL_prims : List (Nat × PSpec) := []
theorem concatSL_E : EnvOK ⟨Tryz.prog, tys, concatSL_lib, concatSL_fns, concatSL_prims, []⟩ := env_ok mixed0 tys0 .nil (.cons (by kernel_rfl) ⟨Tryz.func252, by kernel_rfl, by kernel_rfl⟩ .nil) .nil rfl
set_option maxHeartbeats 4000000 in
theorem concatSL_ok : Pure Tryz.prog 186 concatSL_S := by
  refine pure_by concatSL_E 6 (fi := {fn := Tryz.f186, hooks := [10], draws := []}) ⟨Tryz.func186, by kernel_rfl, by kernel_rfl⟩ ?_
  rintro _ K ⟨x, rfl, hx, hK⟩
  replace hK : ∀ p, p = .sl strV x.flatten → K p := fun r h => h ▸ hK
  obtain ⟨f, hf⟩ : ∃ f : Nat → List Bs, ∀ i, f i = (x.take i).flatten := ⟨_, fun _ => rfl⟩
  have f0 : f 0 = [] := by simp [hf]
  have fS : ∀ i (h : i < x.length), f (i + 1) = f i ++ x[i] := fun i h => by
    rw [hf, hf, List.take_succ_eq_append_getElem h]
    simp only [List.flatten_append, List.flatten_cons, List.flatten_nil, List.append_nil]
  have fN : ∀ i, x.length ≤ i → f i = x.flatten := fun i h => by simp [hf, List.take_of_length_le h]
  have fl : ∀ i, (f i).length ≤ 1000000 := fun i => by
    rw [← List.take_append_drop i x] at hx
    simp only [List.flatten_append, List.length_append] at hx
    rw [hf]; omega
  clear hf
  refine fun (hl : _ ≤ MAXL) => ?_
  conv => whnf
  refine loop_intro (σ := Nat) (fun i => [(0, .sl lsV x), (2, .nil), (9, .sl lsV x), (10, .int .i64 x.length), (11, .int .i64 i), (3, .int .i64 ((f i).length : Nat))]) (fun _ => []) (fun i => i ≤ x.length) (fun i => x.length - i) 0 (wk_sel [] rfl rfl trivial ?_) (Nat.zero_le _) ?_
  · simp only [f0]
    (repeat' (first | exact True.intro | exact rfl | exact Or.inl rfl | exact Or.inr rfl | refine And.intro ?_ ?_ | fail))
  intro i hi
  have hs := fl i
  repeat' (first | exact True.intro | refine ⟨_, LeL.refl _, ?_⟩ | refine ⟨_, _, _, LeL.refl _, ?_⟩ | (refine fun (b : Bool) hb => ?_; cases b <;> (first | exact absurd hb (by decide) | exact Bool.noConfusion (show true = false from hb) | exact Bool.noConfusion (show false = true from hb) | skip)) | (refine fun (hl : _ ≤ MAXL) => ?_) | refine And.intro (a := I64 _) ?_ ?_ | refine And.intro (a := _ ≤ 140737488355328) ?_ ?_ | refine ⟨_, ⟨rfl, rfl⟩, ?_⟩ | refine ⟨_, And.intro (a := I64 _) ?_ ⟨rfl, rfl⟩, ?_⟩ | refine ⟨_, _, ⟨rfl, rfl⟩, ?_⟩ | refine ⟨_, (fun _ => ⟨rfl, rfl⟩), ?_⟩ | refine And.intro (a := chkPend _ _ _ _ _ _) ?_ ?_ | refine And.intro (a := chkPast _ _ _ _ _ _ _ _) ?_ ?_ | refine ⟨⟨rfl, rfl⟩, ?_⟩ | refine And.intro (And.intro rfl rfl) ?_ | refine ⟨True.intro, ?_⟩ | refine ⟨_, ⟨_, rfl, ?_, rfl, rfl, rfl⟩, ?_⟩ | refine ⟨_, rfl, ?_, rfl, ?_⟩ | refine ⟨_, (fun _ => rfl), rfl, ?_⟩ | refine ⟨(fun _ => rfl), ?_⟩ | refine ⟨rfl, ?_⟩ | refine Opt.a ?_ | fail)
  · conv => whnf
    refine join_intro (σ := Unit) (fun _ => [(0, .sl lsV x), (2, .nil), (6, .own 0)]) (fun _ => [.row 1 []]) (fun _ => True) ?_ ?_
    · repeat' (first | exact True.intro | refine ⟨_, LeL.refl _, ?_⟩ | refine ⟨_, _, _, LeL.refl _, ?_⟩ | (refine fun (b : Bool) hb => ?_; cases b <;> (first | exact absurd hb (by decide) | exact Bool.noConfusion (show true = false from hb) | exact Bool.noConfusion (show false = true from hb) | skip)) | (refine fun (hl : _ ≤ MAXL) => ?_) | refine And.intro (a := I64 _) ?_ ?_ | refine And.intro (a := _ ≤ 140737488355328) ?_ ?_ | refine ⟨_, ⟨rfl, rfl⟩, ?_⟩ | refine ⟨_, And.intro (a := I64 _) ?_ ⟨rfl, rfl⟩, ?_⟩ | refine ⟨_, _, ⟨rfl, rfl⟩, ?_⟩ | refine ⟨_, (fun _ => ⟨rfl, rfl⟩), ?_⟩ | refine And.intro (a := chkPend _ _ _ _ _ _) ?_ ?_ | refine And.intro (a := chkPast _ _ _ _ _ _ _ _) ?_ ?_ | refine ⟨⟨rfl, rfl⟩, ?_⟩ | refine And.intro (And.intro rfl rfl) ?_ | refine ⟨True.intro, ?_⟩ | refine ⟨_, ⟨_, rfl, ?_, rfl, rfl, rfl⟩, ?_⟩ | refine ⟨_, rfl, ?_, rfl, ?_⟩ | refine ⟨_, (fun _ => rfl), rfl, ?_⟩ | refine ⟨(fun _ => rfl), ?_⟩ | refine ⟨rfl, ?_⟩ | refine Opt.a ?_ | fail)
      · unfold I64; omega
      · unfold I64; omega
      · refine ⟨(), wk_sel [none] rfl rfl trivial ?_, trivial⟩
        (repeat' (first | exact True.intro | exact rfl | exact Or.inl rfl | exact Or.inr rfl | refine And.intro ?_ ?_ | fail))
      · refine ⟨(f i).length, by simp, by grind, by simp only [Nat.mul_one]; omega, ?_⟩
        refine fun _ => ?_
        refine ⟨0, rfl, Nat.zero_le _, ?_⟩
        refine ⟨(), wk_sel [some 1] rfl rfl ⟨rfl, trivial⟩ ?_, trivial⟩
        (repeat' (first | exact True.intro | exact rfl | exact Or.inl rfl | exact Or.inr rfl | refine And.intro ?_ ?_ | fail))
    intro _ _
    refine fun (hl : _ ≤ MAXL) => ?_
    conv => whnf
    refine loop_intro (σ := Nat) (fun i => [(0, .sl lsV x), (2, .nil), (6, .own 0), (25, .sl lsV x), (26, .int .i64 x.length), (27, .int .i64 i)]) (fun i => [.row 1 ((f i).map strV)]) (fun i => i ≤ x.length) (fun i => x.length - i) 0 (wk_sel [some 0] rfl rfl ⟨?_, trivial⟩ ?_) (Nat.zero_le _) ?_
    · rw [f0]; exact rfl
    · (repeat' (first | exact True.intro | exact rfl | exact Or.inl rfl | exact Or.inr rfl | refine And.intro ?_ ?_ | fail))
    intro i hi
    have hs := fl i
    repeat' (first | exact True.intro | refine ⟨_, LeL.refl _, ?_⟩ | refine ⟨_, _, _, LeL.refl _, ?_⟩ | (refine fun (b : Bool) hb => ?_; cases b <;> (first | exact absurd hb (by decide) | exact Bool.noConfusion (show true = false from hb) | exact Bool.noConfusion (show false = true from hb) | skip)) | (refine fun (hl : _ ≤ MAXL) => ?_) | refine And.intro (a := I64 _) ?_ ?_ | refine And.intro (a := _ ≤ 140737488355328) ?_ ?_ | refine ⟨_, ⟨rfl, rfl⟩, ?_⟩ | refine ⟨_, And.intro (a := I64 _) ?_ ⟨rfl, rfl⟩, ?_⟩ | refine ⟨_, _, ⟨rfl, rfl⟩, ?_⟩ | refine ⟨_, (fun _ => ⟨rfl, rfl⟩), ?_⟩ | refine And.intro (a := chkPend _ _ _ _ _ _) ?_ ?_ | refine And.intro (a := chkPast _ _ _ _ _ _ _ _) ?_ ?_ | refine ⟨⟨rfl, rfl⟩, ?_⟩ | refine And.intro (And.intro rfl rfl) ?_ | refine ⟨True.intro, ?_⟩ | refine ⟨_, ⟨_, rfl, ?_, rfl, rfl, rfl⟩, ?_⟩ | refine ⟨_, rfl, ?_, rfl, ?_⟩ | refine ⟨_, (fun _ => rfl), rfl, ?_⟩ | refine ⟨(fun _ => rfl), ?_⟩ | refine ⟨rfl, ?_⟩ | refine Opt.a ?_ | refine ⟨Bs, strV, ?_⟩ | fail)
    · refine hK _ ?_
      rw [fN i (by grind)]
    · grind
    · have := fl (i + 1)
      rw [fS i (by grind)] at this
      simp only [List.length_append, List.length_map, lsV, elsOf] at this ⊢
      omega
    · unfold I64; grind
    · refine ⟨i + 1, ?_, ?_, ?_⟩
      · refine wk_sel [some 1] rfl rfl ⟨?_, trivial⟩ ?_
        · rw [fS i (by grind), List.map_append]
          exact rfl
        · (repeat' (first | exact True.intro | exact rfl | exact Or.inl rfl | exact Or.inr rfl | refine And.intro ?_ ?_ | fail))
      · grind
      · grind
  · grind
  · unfold I64; grind
  · unfold I64; grind
  · refine ⟨i + 1, ?_, ?_, ?_⟩
    · refine wk_sel [] rfl rfl trivial ?_
      rw [fS i (by grind)]
      simp only [List.length_append]
      (repeat' (first | exact True.intro | exact rfl | exact Or.inl rfl | exact Or.inr rfl | refine And.intro ?_ ?_ | fail))
    · grind
    · grind
end Gv
namespace Gv
variable [Glob] [Laid] [Errs] [Nums]
theorem joinL_ca : callable Tryz.prog 133 = true := by kernel_rfl
def joinL_S : Spec := fun args K => ∃ (h : Int) (c : Cmd) (p : List (List Bs)), args = [.int .i64 h, cmdV c, .sl lsV p] ∧ ((h = 4 → checkCmd c = 0) ∧ p.length ≤ 1000 ∧ p.flatten.length ≤ 100000 ∧ ∀ l ∈ p, ∀ s ∈ l, s.length ≤ 100000) ∧ K (.sl strV (joinB h c p))
noncomputable def joinL_lib : List (Nat × Spec) := [(184, mergeJ_S), (185, sumJ_S), (107, itoa_S), (98, linesC_S), (186, concatSL_S)]
noncomputable def joinL_fns : List (Nat × FnI) := []
noncomputable def joinL_prims : List (Nat × PSpec) := []
theorem joinL_E : EnvOK ⟨Tryz.prog, tys, joinL_lib, joinL_fns, joinL_prims, []⟩ := env_ok mixed0 tys0 (.cons mergeJ_ca mergeJ_ok (.cons sumJ_ca sumJ_ok (.cons itoa_ca itoa_ok (.cons linesC_ca linesC_ok (.cons concatSL_ca concatSL_ok .nil))))) .nil .nil rfl
set_option maxHeartbeats 4000000 in
theorem joinL_ok : Pure Tryz.prog 133 joinL_S := by
  refine pure_by joinL_E 6 (fi := {fn := Tryz.f133, hooks := [], draws := []}) ⟨Tryz.func133, by kernel_rfl, by kernel_rfl⟩ ?_
  rintro _ K ⟨h, c, p, rfl, ⟨hc, hp1, hp2, hp3⟩, hK⟩
  replace hK : ∀ r, r = .sl strV (joinB h c p) → K r := fun r h => h ▸ hK
  have hb := sumN_bnd p p.length
  unfold joinB at hK
  repeat' (first | exact True.intro | refine ⟨_, LeL.refl _, ?_⟩ | refine ⟨_, _, _, LeL.refl _, ?_⟩ | (refine fun (b : Bool) hb => ?_; cases b <;> (first | exact absurd hb (by decide) | exact Bool.noConfusion (show true = false from hb) | exact Bool.noConfusion (show false = true from hb) | skip)) | (refine fun (hl : _ ≤ MAXL) => ?_) | refine And.intro (a := I64 _) ?_ ?_ | refine And.intro (a := _ ≤ 140737488355328) ?_ ?_ | refine ⟨_, ⟨rfl, rfl⟩, ?_⟩ | refine ⟨_, And.intro (a := I64 _) ?_ ⟨rfl, rfl⟩, ?_⟩ | refine ⟨_, _, ⟨rfl, rfl⟩, ?_⟩ | refine ⟨_, (fun _ => ⟨rfl, rfl⟩), ?_⟩ | refine And.intro (a := chkPend _ _ _ _ _ _) ?_ ?_ | refine And.intro (a := chkPast _ _ _ _ _ _ _ _) ?_ ?_ | refine ⟨⟨rfl, rfl⟩, ?_⟩ | refine And.intro (And.intro rfl rfl) ?_ | refine ⟨True.intro, ?_⟩ | refine ⟨_, ⟨_, rfl, ?_, rfl, rfl, rfl⟩, ?_⟩ | refine ⟨_, rfl, ?_, rfl, ?_⟩ | refine ⟨_, (fun _ => rfl), rfl, ?_⟩ | refine ⟨(fun _ => rfl), ?_⟩ | refine ⟨rfl, ?_⟩ | refine Opt.a ?_ | fail)
  · have h2 : ¬ h = 2 := of_decide_eq_false (by assumption)
    have h3 : ¬ h = 3 := of_decide_eq_false (by assumption)
    rw [if_neg h2, if_neg h3] at hK
    repeat' (first | exact True.intro | refine ⟨_, LeL.refl _, ?_⟩ | refine ⟨_, _, _, LeL.refl _, ?_⟩ | (refine fun (b : Bool) hb => ?_; cases b <;> (first | exact absurd hb (by decide) | exact Bool.noConfusion (show true = false from hb) | exact Bool.noConfusion (show false = true from hb) | skip)) | (refine fun (hl : _ ≤ MAXL) => ?_) | refine And.intro (a := I64 _) ?_ ?_ | refine And.intro (a := _ ≤ 140737488355328) ?_ ?_ | refine ⟨_, ⟨rfl, rfl⟩, ?_⟩ | refine ⟨_, And.intro (a := I64 _) ?_ ⟨rfl, rfl⟩, ?_⟩ | refine ⟨_, _, ⟨rfl, rfl⟩, ?_⟩ | refine ⟨_, (fun _ => ⟨rfl, rfl⟩), ?_⟩ | refine And.intro (a := chkPend _ _ _ _ _ _) ?_ ?_ | refine And.intro (a := chkPast _ _ _ _ _ _ _ _) ?_ ?_ | refine ⟨⟨rfl, rfl⟩, ?_⟩ | refine And.intro (And.intro rfl rfl) ?_ | refine ⟨True.intro, ?_⟩ | refine ⟨_, ⟨_, rfl, ?_, rfl, rfl, rfl⟩, ?_⟩ | refine ⟨_, rfl, ?_, rfl, ?_⟩ | refine ⟨_, (fun _ => rfl), rfl, ?_⟩ | refine ⟨(fun _ => rfl), ?_⟩ | refine ⟨rfl, ?_⟩ | refine Opt.a ?_ | fail)
    refine ⟨p, rfl, by omega, ?_⟩
    repeat' (first | exact True.intro | refine ⟨_, LeL.refl _, ?_⟩ | refine ⟨_, _, _, LeL.refl _, ?_⟩ | (refine fun (b : Bool) hb => ?_; cases b <;> (first | exact absurd hb (by decide) | exact Bool.noConfusion (show true = false from hb) | exact Bool.noConfusion (show false = true from hb) | skip)) | (refine fun (hl : _ ≤ MAXL) => ?_) | refine And.intro (a := I64 _) ?_ ?_ | refine And.intro (a := _ ≤ 140737488355328) ?_ ?_ | refine ⟨_, ⟨rfl, rfl⟩, ?_⟩ | refine ⟨_, And.intro (a := I64 _) ?_ ⟨rfl, rfl⟩, ?_⟩ | refine ⟨_, _, ⟨rfl, rfl⟩, ?_⟩ | refine ⟨_, (fun _ => ⟨rfl, rfl⟩), ?_⟩ | refine And.intro (a := chkPend _ _ _ _ _ _) ?_ ?_ | refine And.intro (a := chkPast _ _ _ _ _ _ _ _) ?_ ?_ | refine ⟨⟨rfl, rfl⟩, ?_⟩ | refine And.intro (And.intro rfl rfl) ?_ | refine ⟨True.intro, ?_⟩ | refine ⟨_, ⟨_, rfl, ?_, rfl, rfl, rfl⟩, ?_⟩ | refine ⟨_, rfl, ?_, rfl, ?_⟩ | refine ⟨_, (fun _ => rfl), rfl, ?_⟩ | refine ⟨(fun _ => rfl), ?_⟩ | refine ⟨rfl, ?_⟩ | refine Opt.a ?_ | fail)
    · have h4 : ¬ h = 4 := of_decide_eq_false (by assumption)
      rw [if_neg h4] at hK
      exact hK _ rfl
    · have h4 : h = 4 := of_decide_eq_true (by assumption)
      rw [if_pos h4] at hK
      refine ⟨c, p.flatten, rfl, ⟨hc h4, hp2, fun s hs => ?_⟩, ?_⟩
      · obtain ⟨l, hl, hsl⟩ := List.mem_flatten.1 hs
        exact hp3 l hl s hsl
      repeat' (first | exact True.intro | refine ⟨_, LeL.refl _, ?_⟩ | refine ⟨_, _, _, LeL.refl _, ?_⟩ | (refine fun (b : Bool) hb => ?_; cases b <;> (first | exact absurd hb (by decide) | exact Bool.noConfusion (show true = false from hb) | exact Bool.noConfusion (show false = true from hb) | skip)) | (refine fun (hl : _ ≤ MAXL) => ?_) | refine And.intro (a := I64 _) ?_ ?_ | refine And.intro (a := _ ≤ 140737488355328) ?_ ?_ | refine ⟨_, ⟨rfl, rfl⟩, ?_⟩ | refine ⟨_, And.intro (a := I64 _) ?_ ⟨rfl, rfl⟩, ?_⟩ | refine ⟨_, _, ⟨rfl, rfl⟩, ?_⟩ | refine ⟨_, (fun _ => ⟨rfl, rfl⟩), ?_⟩ | refine And.intro (a := chkPend _ _ _ _ _ _) ?_ ?_ | refine And.intro (a := chkPast _ _ _ _ _ _ _ _) ?_ ?_ | refine ⟨⟨rfl, rfl⟩, ?_⟩ | refine And.intro (And.intro rfl rfl) ?_ | refine ⟨True.intro, ?_⟩ | refine ⟨_, ⟨_, rfl, ?_, rfl, rfl, rfl⟩, ?_⟩ | refine ⟨_, rfl, ?_, rfl, ?_⟩ | refine ⟨_, (fun _ => rfl), rfl, ?_⟩ | refine ⟨(fun _ => rfl), ?_⟩ | refine ⟨rfl, ?_⟩ | refine Opt.a ?_ | fail)
      exact hK _ rfl
  · have h2 : ¬ h = 2 := of_decide_eq_false (by assumption)
    have h3 : h = 3 := of_decide_eq_true (by assumption)
    rw [if_neg h2, if_pos h3] at hK
    repeat' (first | exact True.intro | refine ⟨_, LeL.refl _, ?_⟩ | refine ⟨_, _, _, LeL.refl _, ?_⟩ | (refine fun (b : Bool) hb => ?_; cases b <;> (first | exact absurd hb (by decide) | exact Bool.noConfusion (show true = false from hb) | exact Bool.noConfusion (show false = true from hb) | skip)) | (refine fun (hl : _ ≤ MAXL) => ?_) | refine And.intro (a := I64 _) ?_ ?_ | refine And.intro (a := _ ≤ 140737488355328) ?_ ?_ | refine ⟨_, ⟨rfl, rfl⟩, ?_⟩ | refine ⟨_, And.intro (a := I64 _) ?_ ⟨rfl, rfl⟩, ?_⟩ | refine ⟨_, _, ⟨rfl, rfl⟩, ?_⟩ | refine ⟨_, (fun _ => ⟨rfl, rfl⟩), ?_⟩ | refine And.intro (a := chkPend _ _ _ _ _ _) ?_ ?_ | refine And.intro (a := chkPast _ _ _ _ _ _ _ _) ?_ ?_ | refine ⟨⟨rfl, rfl⟩, ?_⟩ | refine And.intro (And.intro rfl rfl) ?_ | refine ⟨True.intro, ?_⟩ | refine ⟨_, ⟨_, rfl, ?_, rfl, rfl, rfl⟩, ?_⟩ | refine ⟨_, rfl, ?_, rfl, ?_⟩ | refine ⟨_, (fun _ => rfl), rfl, ?_⟩ | refine ⟨(fun _ => rfl), ?_⟩ | refine ⟨rfl, ?_⟩ | refine Opt.a ?_ | fail)
    refine ⟨p, rfl, ⟨hp1, fun l hl s hs => by have := hp3 l hl s hs; omega⟩, ?_⟩
    refine ⟨_, rfl, ⟨by omega, by omega⟩, ?_⟩
    repeat' (first | exact True.intro | refine ⟨_, LeL.refl _, ?_⟩ | refine ⟨_, _, _, LeL.refl _, ?_⟩ | (refine fun (b : Bool) hb => ?_; cases b <;> (first | exact absurd hb (by decide) | exact Bool.noConfusion (show true = false from hb) | exact Bool.noConfusion (show false = true from hb) | skip)) | (refine fun (hl : _ ≤ MAXL) => ?_) | refine And.intro (a := I64 _) ?_ ?_ | refine And.intro (a := _ ≤ 140737488355328) ?_ ?_ | refine ⟨_, ⟨rfl, rfl⟩, ?_⟩ | refine ⟨_, And.intro (a := I64 _) ?_ ⟨rfl, rfl⟩, ?_⟩ | refine ⟨_, _, ⟨rfl, rfl⟩, ?_⟩ | refine ⟨_, (fun _ => ⟨rfl, rfl⟩), ?_⟩ | refine And.intro (a := chkPend _ _ _ _ _ _) ?_ ?_ | refine And.intro (a := chkPast _ _ _ _ _ _ _ _) ?_ ?_ | refine ⟨⟨rfl, rfl⟩, ?_⟩ | refine And.intro (And.intro rfl rfl) ?_ | refine ⟨True.intro, ?_⟩ | refine ⟨_, ⟨_, rfl, ?_, rfl, rfl, rfl⟩, ?_⟩ | refine ⟨_, rfl, ?_, rfl, ?_⟩ | refine ⟨_, (fun _ => rfl), rfl, ?_⟩ | refine ⟨(fun _ => rfl), ?_⟩ | refine ⟨rfl, ?_⟩ | refine Opt.a ?_ | fail)
    refine ⟨Bs, strV, [Lib.itoa (sumN p p.length)], LeL.refl _, ?_⟩
    exact hK _ rfl
  · have h2 : h = 2 := of_decide_eq_true (by assumption)
    rw [if_pos h2] at hK
    repeat' (first | exact True.intro | refine ⟨_, LeL.refl _, ?_⟩ | refine ⟨_, _, _, LeL.refl _, ?_⟩ | (refine fun (b : Bool) hb => ?_; cases b <;> (first | exact absurd hb (by decide) | exact Bool.noConfusion (show true = false from hb) | exact Bool.noConfusion (show false = true from hb) | skip)) | (refine fun (hl : _ ≤ MAXL) => ?_) | refine And.intro (a := I64 _) ?_ ?_ | refine And.intro (a := _ ≤ 140737488355328) ?_ ?_ | refine ⟨_, ⟨rfl, rfl⟩, ?_⟩ | refine ⟨_, And.intro (a := I64 _) ?_ ⟨rfl, rfl⟩, ?_⟩ | refine ⟨_, _, ⟨rfl, rfl⟩, ?_⟩ | refine ⟨_, (fun _ => ⟨rfl, rfl⟩), ?_⟩ | refine And.intro (a := chkPend _ _ _ _ _ _) ?_ ?_ | refine And.intro (a := chkPast _ _ _ _ _ _ _ _) ?_ ?_ | refine ⟨⟨rfl, rfl⟩, ?_⟩ | refine And.intro (And.intro rfl rfl) ?_ | refine ⟨True.intro, ?_⟩ | refine ⟨_, ⟨_, rfl, ?_, rfl, rfl, rfl⟩, ?_⟩ | refine ⟨_, rfl, ?_, rfl, ?_⟩ | refine ⟨_, (fun _ => rfl), rfl, ?_⟩ | refine ⟨(fun _ => rfl), ?_⟩ | refine ⟨rfl, ?_⟩ | refine Opt.a ?_ | fail)
    refine ⟨p, rfl, ⟨by omega, hp1⟩, ?_⟩
    repeat' (first | exact True.intro | refine ⟨_, LeL.refl _, ?_⟩ | refine ⟨_, _, _, LeL.refl _, ?_⟩ | (refine fun (b : Bool) hb => ?_; cases b <;> (first | exact absurd hb (by decide) | exact Bool.noConfusion (show true = false from hb) | exact Bool.noConfusion (show false = true from hb) | skip)) | (refine fun (hl : _ ≤ MAXL) => ?_) | refine And.intro (a := I64 _) ?_ ?_ | refine And.intro (a := _ ≤ 140737488355328) ?_ ?_ | refine ⟨_, ⟨rfl, rfl⟩, ?_⟩ | refine ⟨_, And.intro (a := I64 _) ?_ ⟨rfl, rfl⟩, ?_⟩ | refine ⟨_, _, ⟨rfl, rfl⟩, ?_⟩ | refine ⟨_, (fun _ => ⟨rfl, rfl⟩), ?_⟩ | refine And.intro (a := chkPend _ _ _ _ _ _) ?_ ?_ | refine And.intro (a := chkPast _ _ _ _ _ _ _ _) ?_ ?_ | refine ⟨⟨rfl, rfl⟩, ?_⟩ | refine And.intro (And.intro rfl rfl) ?_ | refine ⟨True.intro, ?_⟩ | refine ⟨_, ⟨_, rfl, ?_, rfl, rfl, rfl⟩, ?_⟩ | refine ⟨_, rfl, ?_, rfl, ?_⟩ | refine ⟨_, (fun _ => rfl), rfl, ?_⟩ | refine ⟨(fun _ => rfl), ?_⟩ | refine ⟨rfl, ?_⟩ | refine Opt.a ?_ | fail)
    exact hK _ rfl
end Gv
namespace Gv
variable [Glob] [Laid]
theorem put_ca : callable Tryz.prog 97 = true := by kernel_rfl
def put_S : Spec := fun args K => ∃ l : List Bs, args = [.sl strV l] ∧ (put l).length ≤ 1000000 ∧ K (.sl byteV (put l))
noncomputable def put_lib : List (Nat × Spec) := []
noncomputable def put_fns : List (Nat × FnI) := []
noncomputable def put_prims : List (Nat × PSpec) := []
theorem put_E : EnvOK ⟨Tryz.prog, tys, put_lib, put_fns, put_prims, []⟩ := env_ok mixed0 tys0 .nil .nil .nil rfl
set_option maxHeartbeats 4000000 in
theorem put_ok : Pure Tryz.prog 97 put_S := by
  refine pure_by put_E 6 (fi := {fn := Tryz.f97, hooks := [], draws := []}) ⟨Tryz.func97, by kernel_rfl, by kernel_rfl⟩ ?_
  rintro _ K ⟨l, rfl, hb, hK⟩
  refine fun (hl : _ ≤ MAXL) => ?_
  conv => whnf
  refine loop_live [6, 7] (σ := Nat) (fun i => [(3, .own 0), (8, .int .i64 i)]) (fun i => [.row 1 ((put (l.take i)).map byteV)]) (fun i => i ≤ l.length) (fun i => l.length - i) 0 ?_
  conv => whnf
  refine ⟨(by (refine wk_sel [none] rfl rfl ?_ ?_ <;> (repeat' (first | exact True.intro | exact rfl | exact Or.inl rfl | exact Or.inr rfl | refine And.intro ?_ ?_ | fail)))), Nat.zero_le _, fun i hi => ?_⟩
  have h1 := put_take_le l i
  have h2 := put_take_le l (i + 1)
  repeat' (first | exact True.intro | refine ⟨_, LeL.refl _, ?_⟩ | refine ⟨_, _, _, LeL.refl _, ?_⟩ | (refine fun (b : Bool) hb => ?_; cases b <;> (first | exact absurd hb (by decide) | exact Bool.noConfusion (show true = false from hb) | exact Bool.noConfusion (show false = true from hb) | skip)) | (refine fun (hl : _ ≤ MAXL) => ?_) | refine And.intro (a := I64 _) ?_ ?_ | refine And.intro (a := _ ≤ 140737488355328) ?_ ?_ | refine ⟨_, ⟨rfl, rfl⟩, ?_⟩ | refine ⟨_, And.intro (a := I64 _) ?_ ⟨rfl, rfl⟩, ?_⟩ | refine ⟨_, _, ⟨rfl, rfl⟩, ?_⟩ | refine ⟨_, (fun _ => ⟨rfl, rfl⟩), ?_⟩ | refine And.intro (a := chkPend _ _ _ _ _ _) ?_ ?_ | refine And.intro (a := chkPast _ _ _ _ _ _ _ _) ?_ ?_ | refine ⟨⟨rfl, rfl⟩, ?_⟩ | refine And.intro (And.intro rfl rfl) ?_ | refine ⟨True.intro, ?_⟩ | refine ⟨_, ⟨_, rfl, ?_, rfl, rfl, rfl⟩, ?_⟩ | refine ⟨_, rfl, ?_, rfl, ?_⟩ | refine ⟨_, (fun _ => rfl), rfl, ?_⟩ | refine ⟨(fun _ => rfl), ?_⟩ | refine ⟨rfl, ?_⟩ | refine Opt.a ?_ | fail)
  · rw [List.take_of_length_le (by grind)]
    exact hK
  · grind
  · rw [put_take_succ (by grind)] at h2
    simp only [List.length_append, List.length_map, List.length_cons, List.length_nil, Nat.mul_one] at *
    omega
  · rw [put_take_succ (by grind)] at h2
    simp only [List.length_append, List.length_map, List.length_cons, List.length_nil, Nat.mul_one] at *
    omega
  · (first | omega | (unfold I64; omega) | (simp only [List.length_append, List.length_map, List.length_cons, List.length_nil, Nat.mul_one, Int.ofNat_eq_natCast] at *; omega) | (dsimp only at *; omega) | (unfold I64; dsimp only at *; omega) | (unfold I64; grind) | grind)
  · refine ⟨i + 1, ?_, by grind, by grind⟩
    refine wk_sel [some 3] rfl rfl ⟨?_, trivial⟩ ?_
    · rw [put_take_succ (by grind), List.map_append, List.map_append, ← List.append_assoc]
      exact rfl
    · (repeat' (first | exact True.intro | exact rfl | exact Or.inl rfl | exact Or.inr rfl | refine And.intro ?_ ?_ | fail))
end Gv
namespace Gv
variable [Glob] [Laid] [Errs] [Nums]
theorem flat_take {p : List Bs} {i : Nat} (h : i < p.length) : (p.take (i + 1)).flatten.length = (p.take i).flatten.length + p[i].length := by
  rw [List.take_succ_eq_append_getElem h]
  simp only [List.flatten_append, List.length_append, List.flatten_cons, List.flatten_nil, List.append_nil]
theorem flat_take_le (p : List Bs) (i : Nat) : (p.take i).flatten.length ≤ p.flatten.length := by
  have h1 := congrArg (fun x => x.flatten.length) (List.take_append_drop i p)
  simp only [List.flatten_append, List.length_append] at h1
  omega
theorem joinDo_ca : callable Tryz.prog 65 = true := by kernel_rfl
def joinDo_S : Spec := fun args K => ∃ (h : Int) (c : Cmd) (p : List Bs), args = [.int .i64 h, cmdV c, .sl blV p] ∧ K (.tup [.sl byteV (joinDo h c p).1, .int .i64 (joinDo h c p).2])
noncomputable def joinDo_lib : List (Nat × Spec) := [(61, checkJ_S), (123, linesL_S), (133, joinL_S), (97, put_S)]
noncomputable def joinDo_fns : List (Nat × FnI) := []
noncomputable def joinDo_prims : List (Nat × PSpec) := []
theorem joinDo_E : EnvOK ⟨Tryz.prog, tys, joinDo_lib, joinDo_fns, joinDo_prims, []⟩ := env_ok mixed0 tys0 (.cons checkJ_ca checkJ_ok (.cons linesL_ca linesL_ok (.cons joinL_ca joinL_ok (.cons put_ca put_ok .nil)))) .nil .nil rfl
set_option maxHeartbeats 8000000 in
theorem joinDo_ok : Pure Tryz.prog 65 joinDo_S := by
  refine pure_by joinDo_E 6 (fi := {fn := Tryz.f65, hooks := [], draws := []}) ⟨Tryz.func65, by kernel_rfl, by kernel_rfl⟩ ?_
  rintro _ K ⟨h, c, p, rfl, hK⟩
  replace hK : ∀ r, r = .tup [.sl byteV (joinDo h c p).1, .int .i64 (joinDo h c p).2] → K r := fun r h => h ▸ hK
  have hone : ∀ r : Bs × Int, joinDo h c p = r → K (.tup [.sl byteV r.1, .int .i64 r.2]) := fun r h => hK _ (by rw [h])
  unfold joinDo at hone
  refine ⟨h, c, rfl, ?_⟩
  obtain ⟨e, he⟩ : ∃ e, checkJoin h c = e := ⟨_, rfl⟩
  rw [he] at hone ⊢
  repeat' (first | exact True.intro | refine ⟨_, LeL.refl _, ?_⟩ | refine ⟨_, _, _, LeL.refl _, ?_⟩ | (refine fun (b : Bool) hb => ?_; cases b <;> (first | exact absurd hb (by decide) | exact Bool.noConfusion (show true = false from hb) | exact Bool.noConfusion (show false = true from hb) | skip)) | (refine fun (hl : _ ≤ MAXL) => ?_) | refine And.intro (a := I64 _) ?_ ?_ | refine And.intro (a := _ ≤ 140737488355328) ?_ ?_ | refine ⟨_, ⟨rfl, rfl⟩, ?_⟩ | refine ⟨_, And.intro (a := I64 _) ?_ ⟨rfl, rfl⟩, ?_⟩ | refine ⟨_, _, ⟨rfl, rfl⟩, ?_⟩ | refine ⟨_, (fun _ => ⟨rfl, rfl⟩), ?_⟩ | refine And.intro (a := chkPend _ _ _ _ _ _) ?_ ?_ | refine And.intro (a := chkPast _ _ _ _ _ _ _ _) ?_ ?_ | refine ⟨⟨rfl, rfl⟩, ?_⟩ | refine And.intro (And.intro rfl rfl) ?_ | refine ⟨True.intro, ?_⟩ | refine ⟨_, ⟨_, rfl, ?_, rfl, rfl, rfl⟩, ?_⟩ | refine ⟨_, rfl, ?_, rfl, ?_⟩ | refine ⟨_, (fun _ => rfl), rfl, ?_⟩ | refine ⟨(fun _ => rfl), ?_⟩ | refine ⟨rfl, ?_⟩ | refine Opt.a ?_ | fail)
  rotate_left
  · have h0 : e = 0 := by
      have h : (!decide (e = 0)) = false := by assumption
      simpa using h
    have h5 : (5 : Int) < (p.length : Int) := of_decide_eq_true (by assumption)
    subst h0
    rw [if_neg (by simp), if_pos (by omega)] at hone
    repeat' (first | exact True.intro | refine ⟨_, LeL.refl _, ?_⟩ | refine ⟨_, _, _, LeL.refl _, ?_⟩ | (refine fun (b : Bool) hb => ?_; cases b <;> (first | exact absurd hb (by decide) | exact Bool.noConfusion (show true = false from hb) | exact Bool.noConfusion (show false = true from hb) | skip)) | (refine fun (hl : _ ≤ MAXL) => ?_) | refine And.intro (a := I64 _) ?_ ?_ | refine And.intro (a := _ ≤ 140737488355328) ?_ ?_ | refine ⟨_, ⟨rfl, rfl⟩, ?_⟩ | refine ⟨_, And.intro (a := I64 _) ?_ ⟨rfl, rfl⟩, ?_⟩ | refine ⟨_, _, ⟨rfl, rfl⟩, ?_⟩ | refine ⟨_, (fun _ => ⟨rfl, rfl⟩), ?_⟩ | refine And.intro (a := chkPend _ _ _ _ _ _) ?_ ?_ | refine And.intro (a := chkPast _ _ _ _ _ _ _ _) ?_ ?_ | refine ⟨⟨rfl, rfl⟩, ?_⟩ | refine And.intro (And.intro rfl rfl) ?_ | refine ⟨True.intro, ?_⟩ | refine ⟨_, ⟨_, rfl, ?_, rfl, rfl, rfl⟩, ?_⟩ | refine ⟨_, rfl, ?_, rfl, ?_⟩ | refine ⟨_, (fun _ => rfl), rfl, ?_⟩ | refine ⟨(fun _ => rfl), ?_⟩ | refine ⟨rfl, ?_⟩ | refine Opt.a ?_ | fail)
    exact ⟨_, byteV, hone _ rfl⟩
  · have h0 : ¬ e = 0 := by
      have h : (!decide (e = 0)) = true := by assumption
      simpa using h
    rw [if_pos h0] at hone
    repeat' (first | exact True.intro | refine ⟨_, LeL.refl _, ?_⟩ | refine ⟨_, _, _, LeL.refl _, ?_⟩ | (refine fun (b : Bool) hb => ?_; cases b <;> (first | exact absurd hb (by decide) | exact Bool.noConfusion (show true = false from hb) | exact Bool.noConfusion (show false = true from hb) | skip)) | (refine fun (hl : _ ≤ MAXL) => ?_) | refine And.intro (a := I64 _) ?_ ?_ | refine And.intro (a := _ ≤ 140737488355328) ?_ ?_ | refine ⟨_, ⟨rfl, rfl⟩, ?_⟩ | refine ⟨_, And.intro (a := I64 _) ?_ ⟨rfl, rfl⟩, ?_⟩ | refine ⟨_, _, ⟨rfl, rfl⟩, ?_⟩ | refine ⟨_, (fun _ => ⟨rfl, rfl⟩), ?_⟩ | refine And.intro (a := chkPend _ _ _ _ _ _) ?_ ?_ | refine And.intro (a := chkPast _ _ _ _ _ _ _ _) ?_ ?_ | refine ⟨⟨rfl, rfl⟩, ?_⟩ | refine And.intro (And.intro rfl rfl) ?_ | refine ⟨True.intro, ?_⟩ | refine ⟨_, ⟨_, rfl, ?_, rfl, rfl, rfl⟩, ?_⟩ | refine ⟨_, rfl, ?_, rfl, ?_⟩ | refine ⟨_, (fun _ => rfl), rfl, ?_⟩ | refine ⟨(fun _ => rfl), ?_⟩ | refine ⟨rfl, ?_⟩ | refine Opt.a ?_ | fail)
    exact ⟨_, byteV, hone _ rfl⟩
  have h0 : e = 0 := by
    have h : (!decide (e = 0)) = false := by assumption
    simpa using h
  have h5 : ¬ (5 : Int) < (p.length : Int) := of_decide_eq_false (by assumption)
  subst h0
  rw [if_neg (by simp), if_neg (by omega)] at hone
  repeat' (first | exact True.intro | refine ⟨_, LeL.refl _, ?_⟩ | refine ⟨_, _, _, LeL.refl _, ?_⟩ | (refine fun (b : Bool) hb => ?_; cases b <;> (first | exact absurd hb (by decide) | exact Bool.noConfusion (show true = false from hb) | exact Bool.noConfusion (show false = true from hb) | skip)) | (refine fun (hl : _ ≤ MAXL) => ?_) | refine And.intro (a := I64 _) ?_ ?_ | refine And.intro (a := _ ≤ 140737488355328) ?_ ?_ | refine ⟨_, ⟨rfl, rfl⟩, ?_⟩ | refine ⟨_, And.intro (a := I64 _) ?_ ⟨rfl, rfl⟩, ?_⟩ | refine ⟨_, _, ⟨rfl, rfl⟩, ?_⟩ | refine ⟨_, (fun _ => ⟨rfl, rfl⟩), ?_⟩ | refine And.intro (a := chkPend _ _ _ _ _ _) ?_ ?_ | refine And.intro (a := chkPast _ _ _ _ _ _ _ _) ?_ ?_ | refine ⟨⟨rfl, rfl⟩, ?_⟩ | refine And.intro (And.intro rfl rfl) ?_ | refine ⟨True.intro, ?_⟩ | refine ⟨_, ⟨_, rfl, ?_, rfl, rfl, rfl⟩, ?_⟩ | refine ⟨_, rfl, ?_, rfl, ?_⟩ | refine ⟨_, (fun _ => rfl), rfl, ?_⟩ | refine ⟨(fun _ => rfl), ?_⟩ | refine ⟨rfl, ?_⟩ | refine Opt.a ?_ | fail)
  conv => whnf
  refine loop_live [0, 4, 22, 23] (σ := Nat × Int × List (List Bs)) (fun s => [(24, .int .i64 s.1), (9, .int .i64 s.2.1), (10, .own 1)]) (fun s => [.box (cmdV c).cells, .row 1 (s.2.2.map lsV)]) (fun s => s.1 ≤ p.length ∧ (p.take s.1).flatten.length ≤ 4000 ∧ s.2.1 = 4000 - ((p.take s.1).flatten.length : Int) ∧ s.2.2 = (p.take s.1).map linesOf) (fun s => p.length - s.1) (0, 4000, []) ?_
  conv => whnf
  refine ⟨(by (refine wk_auto ?_; refine Sel4.mk rfl rfl ?_ ?_ <;> (repeat' (first | exact True.intro | exact rfl | exact Or.inl rfl | exact Or.inr rfl | refine And.intro ?_ ?_ | fail)))), ⟨Nat.zero_le _, by simp, by simp, by simp⟩, fun s hs => ?_⟩
  obtain ⟨i, left, ls⟩ := s
  obtain ⟨hi, hs, hlf, hls⟩ := hs
  dsimp only at hi hs hlf hls
  repeat' (first | exact True.intro | refine ⟨_, LeL.refl _, ?_⟩ | refine ⟨_, _, _, LeL.refl _, ?_⟩ | (refine fun (b : Bool) hb => ?_; cases b <;> (first | exact absurd hb (by decide) | exact Bool.noConfusion (show true = false from hb) | exact Bool.noConfusion (show false = true from hb) | skip)) | (refine fun (hl : _ ≤ MAXL) => ?_) | refine And.intro (a := I64 _) ?_ ?_ | refine And.intro (a := _ ≤ 140737488355328) ?_ ?_ | refine ⟨_, ⟨rfl, rfl⟩, ?_⟩ | refine ⟨_, And.intro (a := I64 _) ?_ ⟨rfl, rfl⟩, ?_⟩ | refine ⟨_, _, ⟨rfl, rfl⟩, ?_⟩ | refine ⟨_, (fun _ => ⟨rfl, rfl⟩), ?_⟩ | refine And.intro (a := chkPend _ _ _ _ _ _) ?_ ?_ | refine And.intro (a := chkPast _ _ _ _ _ _ _ _) ?_ ?_ | refine ⟨⟨rfl, rfl⟩, ?_⟩ | refine And.intro (And.intro rfl rfl) ?_ | refine ⟨True.intro, ?_⟩ | refine ⟨_, ⟨_, rfl, ?_, rfl, rfl, rfl⟩, ?_⟩ | refine ⟨_, rfl, ?_, rfl, ?_⟩ | refine ⟨_, (fun _ => rfl), rfl, ?_⟩ | refine ⟨(fun _ => rfl), ?_⟩ | refine ⟨rfl, ?_⟩ | refine Opt.a ?_ | fail)
  · have hge : ¬ (i : Int) < (p.length : Int) := of_decide_eq_false (by assumption)
    have ei : p.take i = p := List.take_of_length_le (by omega)
    rw [ei] at hs hls
    subst hls
    rw [if_neg (by omega)] at hone
    have hpf := put_flat p
    have hpl := put_len (l := (p.map linesOf).flatten) (n := 5000) (by omega)
    have hc4 : h = 4 → checkCmd c = 0 := fun e4 => by
      unfold checkJoin at he
      rw [if_neg (by omega), if_neg (by omega)] at he
      exact he
    have hjp := joinB_put hc4 (p.map linesOf) (by rw [List.length_map]; omega) (by omega)
    refine ⟨h, c, p.map linesOf, rfl, ⟨hc4, by rw [List.length_map]; omega, by omega, fun l hl s hsl => ?_⟩, ?_⟩
    · have := put_el (List.mem_flatten.2 ⟨l, hl, hsl⟩)
      omega
    refine ⟨joinB h c (p.map linesOf), rfl, by omega, ?_⟩
    repeat' (first | exact True.intro | refine ⟨_, LeL.refl _, ?_⟩ | refine ⟨_, _, _, LeL.refl _, ?_⟩ | (refine fun (b : Bool) hb => ?_; cases b <;> (first | exact absurd hb (by decide) | exact Bool.noConfusion (show true = false from hb) | exact Bool.noConfusion (show false = true from hb) | skip)) | (refine fun (hl : _ ≤ MAXL) => ?_) | refine And.intro (a := I64 _) ?_ ?_ | refine And.intro (a := _ ≤ 140737488355328) ?_ ?_ | refine ⟨_, ⟨rfl, rfl⟩, ?_⟩ | refine ⟨_, And.intro (a := I64 _) ?_ ⟨rfl, rfl⟩, ?_⟩ | refine ⟨_, _, ⟨rfl, rfl⟩, ?_⟩ | refine ⟨_, (fun _ => ⟨rfl, rfl⟩), ?_⟩ | refine And.intro (a := chkPend _ _ _ _ _ _) ?_ ?_ | refine And.intro (a := chkPast _ _ _ _ _ _ _ _) ?_ ?_ | refine ⟨⟨rfl, rfl⟩, ?_⟩ | refine And.intro (And.intro rfl rfl) ?_ | refine ⟨True.intro, ?_⟩ | refine ⟨_, ⟨_, rfl, ?_, rfl, rfl, rfl⟩, ?_⟩ | refine ⟨_, rfl, ?_, rfl, ?_⟩ | refine ⟨_, (fun _ => rfl), rfl, ?_⟩ | refine ⟨(fun _ => rfl), ?_⟩ | refine ⟨rfl, ?_⟩ | refine Opt.a ?_ | fail)
    exact hone _ rfl
  all_goals have hlt : i < p.length := by (have h := of_decide_eq_true (by assumption : decide ((i : Int) < (p.length : Int)) = true); omega)
  all_goals have hft := flat_take hlt
  · exact hlt
  · have h : ¬ (left < (p[i].length : Int)) := of_decide_eq_false (by assumption)
    unfold I64; (try dsimp only); omega
  · have h : ¬ (left < (p[i].length : Int)) := of_decide_eq_false (by assumption)
    have : p[i].length ≤ 1000000 := by omega
    exact this
  · show ((ls.map lsV).length + 1) * 24 ≤ 140737488355328
    rw [List.length_map, hls, List.length_map, List.length_take]
    omega
  · unfold I64; omega
  · have h : ¬ (left < (p[i].length : Int)) := of_decide_eq_false (by assumption)
    refine ⟨(i + 1, left - (p[i].length : Int), ls ++ [linesOf p[i]]), ?_, ⟨hlt, by show (p.take (i + 1)).flatten.length ≤ 4000; omega, by show left - _ = 4000 - ((p.take (i + 1)).flatten.length : Int); omega, by show ls ++ [linesOf p[i]] = _; rw [List.take_succ_eq_append_getElem hlt, List.map_append, hls]; rfl⟩, by show p.length - (i + 1) < p.length - i; omega⟩
    (refine wk_auto ?_; refine Sel4.mk rfl rfl ?_ ?_ <;> (repeat' (first | exact True.intro | exact rfl | exact Or.inl rfl | exact Or.inr rfl | refine And.intro ?_ ?_ | fail)))
    show Row.row 1 _ = Row.row 1 _
    rw [List.map_append]
    rfl
  · have h : (left < (p[i].length : Int)) := of_decide_eq_true (by assumption)
    have hle := flat_take_le p (i + 1)
    rw [if_pos (by omega)] at hone
    repeat' (first | exact True.intro | refine ⟨_, LeL.refl _, ?_⟩ | refine ⟨_, _, _, LeL.refl _, ?_⟩ | (refine fun (b : Bool) hb => ?_; cases b <;> (first | exact absurd hb (by decide) | exact Bool.noConfusion (show true = false from hb) | exact Bool.noConfusion (show false = true from hb) | skip)) | (refine fun (hl : _ ≤ MAXL) => ?_) | refine And.intro (a := I64 _) ?_ ?_ | refine And.intro (a := _ ≤ 140737488355328) ?_ ?_ | refine ⟨_, ⟨rfl, rfl⟩, ?_⟩ | refine ⟨_, And.intro (a := I64 _) ?_ ⟨rfl, rfl⟩, ?_⟩ | refine ⟨_, _, ⟨rfl, rfl⟩, ?_⟩ | refine ⟨_, (fun _ => ⟨rfl, rfl⟩), ?_⟩ | refine And.intro (a := chkPend _ _ _ _ _ _) ?_ ?_ | refine And.intro (a := chkPast _ _ _ _ _ _ _ _) ?_ ?_ | refine ⟨⟨rfl, rfl⟩, ?_⟩ | refine And.intro (And.intro rfl rfl) ?_ | refine ⟨True.intro, ?_⟩ | refine ⟨_, ⟨_, rfl, ?_, rfl, rfl, rfl⟩, ?_⟩ | refine ⟨_, rfl, ?_, rfl, ?_⟩ | refine ⟨_, (fun _ => rfl), rfl, ?_⟩ | refine ⟨(fun _ => rfl), ?_⟩ | refine ⟨rfl, ?_⟩ | refine Opt.a ?_ | fail)
    exact ⟨_, byteV, hone _ rfl⟩
end Gv
namespace Gv
variable [Glob] [Laid]
def joinFor (c : Cmd) : Int × Int := if checkCmd c = 0 then (howFor c, 0) else (0, checkCmd c)
theorem for_ca : callable Tryz.prog 67 = true := by kernel_rfl
def for_S : Spec := fun args K => ∃ (k : Int) (s : Bs) (n : Int), args = [.agg [.int .i64 k, .str s, .int .i64 n]] ∧ K (.tup [.int .i64 (joinFor ⟨k, s, n⟩).1, .int .i64 (joinFor ⟨k, s, n⟩).2])
noncomputable def for_lib : List (Nat × Spec) := [(31, ccheck_S)]
noncomputable def for_fns : List (Nat × FnI) := []
noncomputable def for_prims : List (Nat × PSpec) := []
theorem for_E : EnvOK ⟨Tryz.prog, tys, for_lib, for_fns, for_prims, []⟩ := env_ok mixed0 tys0 (.cons ccheck_ca ccheck_ok .nil) .nil .nil rfl
set_option maxHeartbeats 4000000 in
theorem for_ok : Pure Tryz.prog 67 for_S := by
  refine pure_by for_E 6 (fi := {fn := Tryz.f67, hooks := [], draws := []}) ⟨Tryz.func67, by kernel_rfl, by kernel_rfl⟩ ?_
  rintro _ K ⟨k, s, n, rfl, hK⟩
  replace hK : ∀ r, r = .tup [.int .i64 (joinFor ⟨k, s, n⟩).1, .int .i64 (joinFor ⟨k, s, n⟩).2] → K r := fun r h => h ▸ hK
  refine ⟨k, s, n, rfl, ?_⟩
  unfold joinFor howFor at hK
  generalize checkCmd ⟨k, s, n⟩ = c at hK ⊢
  repeat' (first | exact True.intro | refine ⟨_, LeL.refl _, ?_⟩ | refine ⟨_, _, _, LeL.refl _, ?_⟩ | (refine fun (b : Bool) hb => ?_; cases b <;> (first | exact absurd hb (by decide) | exact Bool.noConfusion (show true = false from hb) | exact Bool.noConfusion (show false = true from hb) | skip)) | (refine fun (hl : _ ≤ MAXL) => ?_) | refine And.intro (a := I64 _) ?_ ?_ | refine And.intro (a := _ ≤ 140737488355328) ?_ ?_ | refine ⟨_, ⟨rfl, rfl⟩, ?_⟩ | refine ⟨_, And.intro (a := I64 _) ?_ ⟨rfl, rfl⟩, ?_⟩ | refine ⟨_, _, ⟨rfl, rfl⟩, ?_⟩ | refine ⟨_, (fun _ => ⟨rfl, rfl⟩), ?_⟩ | refine And.intro (a := chkPend _ _ _ _ _ _) ?_ ?_ | refine And.intro (a := chkPast _ _ _ _ _ _ _ _) ?_ ?_ | refine ⟨⟨rfl, rfl⟩, ?_⟩ | refine And.intro (And.intro rfl rfl) ?_ | refine ⟨True.intro, ?_⟩ | refine ⟨_, ⟨_, rfl, ?_, rfl, rfl, rfl⟩, ?_⟩ | refine ⟨_, rfl, ?_, rfl, ?_⟩ | refine ⟨_, (fun _ => rfl), rfl, ?_⟩ | refine ⟨(fun _ => rfl), ?_⟩ | refine ⟨rfl, ?_⟩ | refine Opt.a ?_ | fail)
  all_goals (refine hK _ ?_; grind)
end Gv
namespace Gv
variable [Glob] [Laid] [Errs] [Nums]
theorem itoa_one (i : Nat) (h : i < 10) : Lib.itoa (i : Int) = [UInt8.ofNat (48 + i)] := by
  unfold Lib.itoa
  rw [if_neg (by omega)]
  exact Lib.decDigits_one (i := i) h
theorem splic1 : joinDo 2 zCmd [[97, 10, 99, 10], [98, 10]] = ([97, 10, 98, 10, 99, 10], 0) := by decide
theorem splic2 : joinDo 3 zCmd [[50, 10], [51], [], [120, 10]] = ([53, 10], 0) := by
  have h1 : [[50, 10], [51], [], [120, 10]].map linesOf = [[[50]], [[51]], [], [[120]]] := by decide
  have e2 : numOf [50] = 2 := by
    have := numOf_itoa (n := 2) (by omega)
    rw [itoa_one 2 (by omega)] at this
    exact this
  have e3 : numOf [51] = 3 := by
    have := numOf_itoa (n := 3) (by omega)
    rw [itoa_one 3 (by omega)] at this
    exact this
  have e4 : numOf [120] = 0 := rfl
  have h2 : sumN [[[50]], [[51]], [], [[120]]] 4 = 5 := by
    show (((0 + numOf [50]) + numOf [51]) + 0) + numOf [120] = 5
    rw [e2, e3, e4]
    rfl
  unfold joinDo
  rw [if_neg (by decide), if_neg (by decide), if_neg (by decide), h1]
  show (put [Lib.itoa (sumN [[[50]], [[51]], [], [[120]]] 4)], (0 : Int)) = _
  have h5 : Lib.itoa 5 = [53] := itoa_one 5 (by omega)
  rw [h2, h5]
  rfl
theorem splic3 : joinFor ⟨9, [], 1⟩ = (4, 0) := by decide
theorem spliced_ca : callable Tryz.prog 60 = true := by kernel_rfl
def spliced_S : Spec := fun args K => args = [] ∧ K (.bool true)
noncomputable def spliced_lib : List (Nat × Spec) := [(65, joinDo_S), (67, for_S)]
noncomputable def spliced_fns : List (Nat × FnI) := []
noncomputable def spliced_prims : List (Nat × PSpec) := []
theorem spliced_E : EnvOK ⟨Tryz.prog, tys, spliced_lib, spliced_fns, spliced_prims, []⟩ := env_ok mixed0 tys0 (.cons joinDo_ca joinDo_ok (.cons for_ca for_ok .nil)) .nil .nil rfl
set_option maxHeartbeats 4000000 in
theorem spliced_ok : Pure Tryz.prog 60 spliced_S := by
  refine pure_by spliced_E 6 (fi := {fn := Tryz.f60, hooks := [], draws := []}) ⟨Tryz.func60, by kernel_rfl, by kernel_rfl⟩ ?_
  rintro _ K ⟨rfl, hK⟩
  replace hK : ∀ r, r = .bool true → K r := fun r h => h ▸ hK
  refine ⟨[97, 10, 99, 10], rfl, by decide, ?_⟩
  refine ⟨[98, 10], rfl, by decide, ?_⟩
  refine ⟨Bs, blV, [[97, 10, 99, 10], [98, 10]], LeL.refl _, ?_⟩
  refine ⟨2, zCmd, [[97, 10, 99, 10], [98, 10]], rfl, ?_⟩
  rw [splic1]
  repeat' (first | exact True.intro | refine ⟨_, LeL.refl _, ?_⟩ | refine ⟨_, _, _, LeL.refl _, ?_⟩ | (refine fun (b : Bool) hb => ?_; cases b <;> (first | exact absurd hb (by decide) | exact Bool.noConfusion (show true = false from hb) | exact Bool.noConfusion (show false = true from hb) | skip)) | (refine fun (hl : _ ≤ MAXL) => ?_) | refine And.intro (a := I64 _) ?_ ?_ | refine And.intro (a := _ ≤ 140737488355328) ?_ ?_ | refine ⟨_, ⟨rfl, rfl⟩, ?_⟩ | refine ⟨_, And.intro (a := I64 _) ?_ ⟨rfl, rfl⟩, ?_⟩ | refine ⟨_, _, ⟨rfl, rfl⟩, ?_⟩ | refine ⟨_, (fun _ => ⟨rfl, rfl⟩), ?_⟩ | refine And.intro (a := chkPend _ _ _ _ _ _) ?_ ?_ | refine And.intro (a := chkPast _ _ _ _ _ _ _ _) ?_ ?_ | refine ⟨⟨rfl, rfl⟩, ?_⟩ | refine And.intro (And.intro rfl rfl) ?_ | refine ⟨True.intro, ?_⟩ | refine ⟨_, ⟨_, rfl, ?_, rfl, rfl, rfl⟩, ?_⟩ | refine ⟨_, rfl, ?_, rfl, ?_⟩ | refine ⟨_, (fun _ => rfl), rfl, ?_⟩ | refine ⟨(fun _ => rfl), ?_⟩ | refine ⟨rfl, ?_⟩ | refine Opt.a ?_ | fail)
  refine ⟨[50, 10], rfl, by decide, ?_⟩
  refine ⟨[51], rfl, by decide, ?_⟩
  refine ⟨[120, 10], rfl, by decide, ?_⟩
  refine ⟨UInt8, byteV, ?_⟩
  refine ⟨Bs, blV, [[50, 10], [51], [], [120, 10]], LeL.refl _, ?_⟩
  refine ⟨3, zCmd, [[50, 10], [51], [], [120, 10]], rfl, ?_⟩
  rw [splic2]
  repeat' (first | exact True.intro | refine ⟨_, LeL.refl _, ?_⟩ | refine ⟨_, _, _, LeL.refl _, ?_⟩ | (refine fun (b : Bool) hb => ?_; cases b <;> (first | exact absurd hb (by decide) | exact Bool.noConfusion (show true = false from hb) | exact Bool.noConfusion (show false = true from hb) | skip)) | (refine fun (hl : _ ≤ MAXL) => ?_) | refine And.intro (a := I64 _) ?_ ?_ | refine And.intro (a := _ ≤ 140737488355328) ?_ ?_ | refine ⟨_, ⟨rfl, rfl⟩, ?_⟩ | refine ⟨_, And.intro (a := I64 _) ?_ ⟨rfl, rfl⟩, ?_⟩ | refine ⟨_, _, ⟨rfl, rfl⟩, ?_⟩ | refine ⟨_, (fun _ => ⟨rfl, rfl⟩), ?_⟩ | refine And.intro (a := chkPend _ _ _ _ _ _) ?_ ?_ | refine And.intro (a := chkPast _ _ _ _ _ _ _ _) ?_ ?_ | refine ⟨⟨rfl, rfl⟩, ?_⟩ | refine And.intro (And.intro rfl rfl) ?_ | refine ⟨True.intro, ?_⟩ | refine ⟨_, ⟨_, rfl, ?_, rfl, rfl, rfl⟩, ?_⟩ | refine ⟨_, rfl, ?_, rfl, ?_⟩ | refine ⟨_, (fun _ => rfl), rfl, ?_⟩ | refine ⟨(fun _ => rfl), ?_⟩ | refine ⟨rfl, ?_⟩ | refine Opt.a ?_ | fail)
  refine ⟨9, [], 1, rfl, ?_⟩
  rw [splic3]
  repeat' (first | exact True.intro | refine ⟨_, LeL.refl _, ?_⟩ | refine ⟨_, _, _, LeL.refl _, ?_⟩ | (refine fun (b : Bool) hb => ?_; cases b <;> (first | exact absurd hb (by decide) | exact Bool.noConfusion (show true = false from hb) | exact Bool.noConfusion (show false = true from hb) | skip)) | (refine fun (hl : _ ≤ MAXL) => ?_) | refine And.intro (a := I64 _) ?_ ?_ | refine And.intro (a := _ ≤ 140737488355328) ?_ ?_ | refine ⟨_, ⟨rfl, rfl⟩, ?_⟩ | refine ⟨_, And.intro (a := I64 _) ?_ ⟨rfl, rfl⟩, ?_⟩ | refine ⟨_, _, ⟨rfl, rfl⟩, ?_⟩ | refine ⟨_, (fun _ => ⟨rfl, rfl⟩), ?_⟩ | refine And.intro (a := chkPend _ _ _ _ _ _) ?_ ?_ | refine And.intro (a := chkPast _ _ _ _ _ _ _ _) ?_ ?_ | refine ⟨⟨rfl, rfl⟩, ?_⟩ | refine And.intro (And.intro rfl rfl) ?_ | refine ⟨True.intro, ?_⟩ | refine ⟨_, ⟨_, rfl, ?_, rfl, rfl, rfl⟩, ?_⟩ | refine ⟨_, rfl, ?_, rfl, ?_⟩ | refine ⟨_, (fun _ => rfl), rfl, ?_⟩ | refine ⟨(fun _ => rfl), ?_⟩ | refine ⟨rfl, ?_⟩ | refine Opt.a ?_ | fail)
  exact hK _ rfl
end Gv
namespace Gv
variable [Glob] [Laid]
theorem small_ca : callable Tryz.prog 62 = true := by kernel_rfl
def small_S : Spec := fun args K => ∃ (l : List Bs), args = [.sl blV l] ∧ (∀ x ∈ l, x.length ≤ 140737488355328) ∧ K (.bool (decide (l.flatten.length ≤ 2000)))
noncomputable def small_lib : List (Nat × Spec) := []
noncomputable def small_fns : List (Nat × FnI) := []
noncomputable def small_prims : List (Nat × PSpec) := []
theorem small_E : EnvOK ⟨Tryz.prog, tys, small_lib, small_fns, small_prims, []⟩ := env_ok mixed0 tys0 .nil .nil .nil rfl
set_option maxHeartbeats 4000000 in
theorem small_ok : Pure Tryz.prog 62 small_S := by
  refine pure_by small_E 6 (fi := {fn := Tryz.f62, hooks := [], draws := []}) ⟨Tryz.func62, by kernel_rfl, by kernel_rfl⟩ ?_
  rintro _ K ⟨l, rfl, hz, hK⟩
  replace hK : ∀ r, r = .bool (decide (l.flatten.length ≤ 2000)) → K r := fun r h => h ▸ hK
  have hle0 : ∀ k, (l.take k).flatten.length ≤ l.flatten.length := fun k => by
    have h1 := congrArg (fun x => x.flatten.length) (List.take_append_drop k l)
    have h2 : (l.take k ++ l.drop k).flatten.length = (l.take k).flatten.length + (l.drop k).flatten.length := by rw [List.flatten_append, List.length_append]
    have h3 : (l.take k ++ l.drop k).flatten.length = l.flatten.length := h1
    omega
  repeat' (first | exact True.intro | refine ⟨_, LeL.refl _, ?_⟩ | refine ⟨_, _, _, LeL.refl _, ?_⟩ | (refine fun (b : Bool) hb => ?_; cases b <;> (first | exact absurd hb (by decide) | exact Bool.noConfusion (show true = false from hb) | exact Bool.noConfusion (show false = true from hb) | skip)) | (refine fun (hl : _ ≤ MAXL) => ?_) | refine And.intro (a := I64 _) ?_ ?_ | refine And.intro (a := _ ≤ 140737488355328) ?_ ?_ | refine ⟨_, ⟨rfl, rfl⟩, ?_⟩ | refine ⟨_, And.intro (a := I64 _) ?_ ⟨rfl, rfl⟩, ?_⟩ | refine ⟨_, _, ⟨rfl, rfl⟩, ?_⟩ | refine ⟨_, (fun _ => ⟨rfl, rfl⟩), ?_⟩ | refine And.intro (a := chkPend _ _ _ _ _ _) ?_ ?_ | refine And.intro (a := chkPast _ _ _ _ _ _ _ _) ?_ ?_ | refine ⟨⟨rfl, rfl⟩, ?_⟩ | refine And.intro (And.intro rfl rfl) ?_ | refine ⟨True.intro, ?_⟩ | refine ⟨_, ⟨_, rfl, ?_, rfl, rfl, rfl⟩, ?_⟩ | refine ⟨_, rfl, ?_, rfl, ?_⟩ | refine ⟨_, (fun _ => rfl), rfl, ?_⟩ | refine ⟨(fun _ => rfl), ?_⟩ | refine ⟨rfl, ?_⟩ | refine Opt.a ?_ | fail)
  conv => whnf
  refine loop_live [6, 7] (σ := Nat × Int) (fun s => [(8, .int .i64 s.1), (3, .int .i64 s.2)]) (fun i => []) (fun s => s.2 = (((l.take s.1).flatten.length : Nat) : Int) ∧ s.1 ≤ l.length ∧ (l.take s.1).flatten.length ≤ 2000) (fun s => l.length - s.1) (0, 0) ?_
  conv => whnf
  refine ⟨(by (refine wk_auto ?_; refine Sel4.mk rfl rfl ?_ ?_ <;> (repeat' (first | exact True.intro | exact rfl | exact Or.inl rfl | exact Or.inr rfl | refine And.intro ?_ ?_ | fail)))), ⟨by simp, Nat.zero_le _, by simp⟩, fun s hs => ?_⟩
  obtain ⟨i, n⟩ := s
  obtain ⟨hn, hi1, hi2⟩ := hs
  dsimp only at hn hi1 hi2
  repeat' (first | exact True.intro | refine ⟨_, LeL.refl _, ?_⟩ | refine ⟨_, _, _, LeL.refl _, ?_⟩ | (refine fun (b : Bool) hb => ?_; cases b <;> (first | exact absurd hb (by decide) | exact Bool.noConfusion (show true = false from hb) | exact Bool.noConfusion (show false = true from hb) | skip)) | (refine fun (hl : _ ≤ MAXL) => ?_) | refine And.intro (a := I64 _) ?_ ?_ | refine And.intro (a := _ ≤ 140737488355328) ?_ ?_ | refine ⟨_, ⟨rfl, rfl⟩, ?_⟩ | refine ⟨_, And.intro (a := I64 _) ?_ ⟨rfl, rfl⟩, ?_⟩ | refine ⟨_, _, ⟨rfl, rfl⟩, ?_⟩ | refine ⟨_, (fun _ => ⟨rfl, rfl⟩), ?_⟩ | refine And.intro (a := chkPend _ _ _ _ _ _) ?_ ?_ | refine And.intro (a := chkPast _ _ _ _ _ _ _ _) ?_ ?_ | refine ⟨⟨rfl, rfl⟩, ?_⟩ | refine And.intro (And.intro rfl rfl) ?_ | refine ⟨True.intro, ?_⟩ | refine ⟨_, ⟨_, rfl, ?_, rfl, rfl, rfl⟩, ?_⟩ | refine ⟨_, rfl, ?_, rfl, ?_⟩ | refine ⟨_, (fun _ => rfl), rfl, ?_⟩ | refine ⟨(fun _ => rfl), ?_⟩ | refine ⟨rfl, ?_⟩ | refine Opt.a ?_ | fail)
  · have : i = l.length := by grind
    rw [this, List.take_length] at hi2
    conv => whnf
    refine hK _ ?_
    rw [decide_eq_true hi2]
  all_goals have hlt : i < l.length := by grind
  · exact hlt
  all_goals have hx : l[i].length ≤ MAXL := by assumption
  all_goals unfold MAXL at hx
  all_goals have hnx : (l.take (i + 1)).flatten.length = (l.take i).flatten.length + l[i].length := by rw [List.take_succ_eq_append_getElem hlt, List.flatten_append, List.length_append]; simp only [List.flatten_cons, List.flatten_nil, List.append_nil]
  · have := hz _ (List.getElem_mem hlt)
    unfold I64
    dsimp only
    omega
  all_goals have hlm : l.length ≤ MAXL := by assumption
  all_goals unfold MAXL at hlm
  all_goals dsimp only at *
  · have : ¬ (2000 : Int) < n + (l[i].length : Int) := of_decide_eq_false (by assumption)
    unfold I64
    omega
  · have : ¬ (2000 : Int) < n + (l[i].length : Int) := of_decide_eq_false (by assumption)
    refine ⟨(i + 1, n + (l[i].length : Int)), (by (refine wk_auto ?_; refine Sel4.mk rfl rfl ?_ ?_ <;> (repeat' (first | exact True.intro | exact rfl | exact Or.inl rfl | exact Or.inr rfl | refine And.intro ?_ ?_ | fail)))), ⟨?_, hlt, ?_⟩, ?_⟩
    · dsimp only
      omega
    · dsimp only
      omega
    · show l.length - (i + 1) < l.length - i
      omega
  · have : (2000 : Int) < n + (l[i].length : Int) := of_decide_eq_true (by assumption)
    conv => whnf
    refine hK _ ?_
    have := hle0 (i + 1)
    rw [decide_eq_false (by omega)]
end Gv
namespace Gv
variable [Glob] [Laid]
def lineOf (b : Bs) : List Bs × Int := if 4000 < b.length then ([], 2) else (linesOf b, 0)
theorem Of_ca : callable Tryz.prog 96 = true := by kernel_rfl
def Of_S : Spec := fun args K => ∃ (b : Bs), args = [.sl byteV b] ∧ K (.tup [.sl strV (lineOf b).1, .int .i64 (lineOf b).2])
noncomputable def Of_lib : List (Nat × Spec) := [(158, of_S)]
noncomputable def Of_fns : List (Nat × FnI) := []
noncomputable def Of_prims : List (Nat × PSpec) := []
theorem Of_E : EnvOK ⟨Tryz.prog, tys, Of_lib, Of_fns, Of_prims, []⟩ := env_ok mixed0 tys0 (.cons of_ca of_ok .nil) .nil .nil rfl
set_option maxHeartbeats 4000000 in
theorem Of_ok : Pure Tryz.prog 96 Of_S := by
  refine pure_by Of_E 6 (fi := {fn := Tryz.f96, hooks := [], draws := []}) ⟨Tryz.func96, by kernel_rfl, by kernel_rfl⟩ ?_
  rintro _ K ⟨b, rfl, hK⟩
  replace hK : ∀ r, r = .tup [.sl strV (lineOf b).1, .int .i64 (lineOf b).2] → K r := fun r h => h ▸ hK
  repeat' (first | exact True.intro | refine ⟨_, LeL.refl _, ?_⟩ | refine ⟨_, _, _, LeL.refl _, ?_⟩ | (refine fun (b : Bool) hb => ?_; cases b <;> (first | exact absurd hb (by decide) | exact Bool.noConfusion (show true = false from hb) | exact Bool.noConfusion (show false = true from hb) | skip)) | (refine fun (hl : _ ≤ MAXL) => ?_) | refine And.intro (a := I64 _) ?_ ?_ | refine And.intro (a := _ ≤ 140737488355328) ?_ ?_ | refine ⟨_, ⟨rfl, rfl⟩, ?_⟩ | refine ⟨_, And.intro (a := I64 _) ?_ ⟨rfl, rfl⟩, ?_⟩ | refine ⟨_, _, ⟨rfl, rfl⟩, ?_⟩ | refine ⟨_, (fun _ => ⟨rfl, rfl⟩), ?_⟩ | refine And.intro (a := chkPend _ _ _ _ _ _) ?_ ?_ | refine And.intro (a := chkPast _ _ _ _ _ _ _ _) ?_ ?_ | refine ⟨⟨rfl, rfl⟩, ?_⟩ | refine And.intro (And.intro rfl rfl) ?_ | refine ⟨True.intro, ?_⟩ | refine ⟨_, ⟨_, rfl, ?_, rfl, rfl, rfl⟩, ?_⟩ | refine ⟨_, rfl, ?_, rfl, ?_⟩ | refine ⟨_, (fun _ => rfl), rfl, ?_⟩ | refine ⟨(fun _ => rfl), ?_⟩ | refine ⟨rfl, ?_⟩ | refine Opt.a ?_ | refine ⟨Bs, strV, ?_⟩ | fail)
  · refine ⟨b, rfl, by grind, ?_⟩
    refine hK _ ?_
    unfold lineOf
    rw [if_neg (by grind)]
  · refine hK _ ?_
    unfold lineOf
    rw [if_pos (by grind)]
end Gv
