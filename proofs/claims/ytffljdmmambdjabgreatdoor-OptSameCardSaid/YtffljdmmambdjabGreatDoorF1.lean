/- What functions of the program come to, part 1: in every world; the conditions stand in each theorem. -/
import Derived.Test.YtffljdmmambdjabGreatDoorVd
import Derived.Test.YtffljdmmambdjabGreatDoorProg
import Derived.Test.YtffljdmmambdjabGreatDoorSh
set_option linter.unusedVariables false
set_option linter.unusedSectionVars false
set_option linter.unusedSimpArgs false
open Go Go.Proofs Gw Gp
namespace Gv
variable [Glob]
noncomputable def tys : List (Nat × TI) := [(2, ⟨(.int .i64 0), 1, 8, false, (.int .i64)⟩),
    (3, ⟨(.int .i64 0), 1, 8, false, (.int .i64)⟩),
    (4, ⟨(.bool false), 1, 1, false, .bool⟩),
    (5, ⟨(.int .u8 0), 1, 1, false, (.int .u8)⟩),
    (9, ⟨(.string ⟨#[]⟩), 1, 16, false, .str⟩),
    (20, ⟨.nilIface, 1, 16, false, .iface⟩),
    (22, ⟨(.slice none 0 0), 1, 24, false, (.slice 67)⟩),
    (23, ⟨(.slice none 0 0), 1, 24, false, (.slice 27)⟩),
    (24, ⟨(.slice none 0 0), 1, 24, false, (.slice 9)⟩),
    (25, ⟨(.slice none 0 0), 1, 24, false, (.slice 48)⟩),
    (27, ⟨(.agg #[(.slice none 0 0), (.slice none 0 0), (.string ⟨#[]⟩)]), 3, 64, true, (.struct [(24, 0), (25, 1), (9, 2)])⟩),
    (28, ⟨(.slice none 0 0), 1, 24, false, (.slice 3)⟩),
    (29, ⟨(.slice none 0 0), 1, 24, false, (.slice 5)⟩),
    (30, ⟨(.int .i64 0), 1, 8, false, (.int .i64)⟩),
    (36, ⟨.nilFunc, 1, 8, false, .other⟩),
    (37, ⟨.nilFunc, 1, 8, false, .other⟩),
    (48, ⟨(.agg #[(.int .i64 0), (.string ⟨#[]⟩), (.int .i64 0)]), 3, 32, true, (.struct [(3, 0), (9, 1), (3, 2)])⟩),
    (67, ⟨(.agg #[(.string ⟨#[]⟩), (.slice none 0 0)]), 2, 40, true, (.struct [(9, 0), (29, 1)])⟩),
    (70, ⟨.nilFunc, 1, 8, false, .other⟩),
    (75, ⟨.nilFunc, 1, 8, false, .other⟩),
    (80, ⟨(.slice none 0 0), 1, 24, false, (.slice 29)⟩),
    (84, ⟨.nilIface, 1, 16, false, .iface⟩),
    (92, ⟨(.slice none 0 0), 1, 24, false, (.slice 99)⟩),
    (94, ⟨(.agg #[(.slice none 0 0)]), 1, 24, true, (.struct [(92, 0)])⟩),
    (97, ⟨(.slice none 0 0), 1, 24, false, (.slice 173)⟩),
    (99, ⟨(.agg #[(.int .i64 0), (.string ⟨#[]⟩), (.int .i64 0), (.string ⟨#[]⟩), (.int .i64 0), (.int .i64 0), (.int .i64 0), (.slice none 0 0)]), 8, 96, true, (.struct [(3, 0), (9, 1), (48, 2), (3, 5), (3, 6), (97, 7)])⟩),
    (100, ⟨.nilFunc, 1, 8, false, .other⟩),
    (113, ⟨(.slice none 0 0), 1, 24, false, (.slice 193)⟩),
    (114, ⟨(.slice none 0 0), 1, 24, false, (.slice 195)⟩),
    (116, ⟨(.agg #[(.slice none 0 0), (.slice none 0 0), (.slice none 0 0), (.slice none 0 0), (.slice none 0 0)]), 5, 120, true, (.struct [(94, 0), (22, 1), (113, 2), (114, 3), (29, 4)])⟩),
    (119, ⟨(.slice none 0 0), 1, 24, false, (.slice 30)⟩),
    (125, ⟨.nilFunc, 1, 8, false, .other⟩),
    (127, ⟨.nilFunc, 1, 8, false, .other⟩),
    (130, ⟨(.map none), 1, 8, false, (.map 3 9)⟩),
    (133, ⟨.nilFunc, 1, 8, false, .other⟩),
    (140, ⟨(.pointer none), 1, 8, false, .other⟩),
    (142, ⟨(.agg #[(.pointer none), (.slice none 0 0)]), 2, 32, true, (.struct [(140, 0), (29, 1)])⟩),
    (143, ⟨(.agg #[(.string ⟨#[]⟩), (.string ⟨#[]⟩), (.string ⟨#[]⟩), (.string ⟨#[]⟩), (.string ⟨#[]⟩), (.string ⟨#[]⟩), (.string ⟨#[]⟩), (.string ⟨#[]⟩), (.string ⟨#[]⟩), (.string ⟨#[]⟩), (.string ⟨#[]⟩)]), 11, 176, true, (.array 11 9)⟩),
    (160, ⟨.nilFunc, 1, 8, false, .other⟩),
    (168, ⟨(.slice none 0 0), 1, 24, false, (.slice 24)⟩),
    (171, ⟨(.slice none 0 0), 1, 24, false, (.slice 80)⟩),
    (173, ⟨(.agg #[(.int .i64 0), (.int .i64 0)]), 2, 16, true, (.struct [(3, 0), (3, 1)])⟩),
    (177, ⟨(.map none), 1, 8, false, (.map 3 3)⟩),
    (178, ⟨(.map none), 1, 8, false, (.map 4 3)⟩),
    (179, ⟨(.pointer none), 1, 8, false, .other⟩),
    (181, ⟨(.agg #[(.slice none 0 0), (.slice none 0 0)]), 2, 48, true, (.struct [(94, 0), (97, 1)])⟩),
    (185, ⟨(.map none), 1, 8, false, (.map 173 4)⟩),
    (189, ⟨.nilFunc, 1, 8, false, .other⟩),
    (190, ⟨.nilFunc, 1, 8, false, .other⟩),
    (193, ⟨(.agg #[(.slice none 0 0), (.int .i64 0), (.bool false), (.bool false)]), 4, 40, true, (.struct [(29, 0), (3, 1), (4, 2), (4, 3)])⟩),
    (195, ⟨(.agg #[(.slice none 0 0), (.int .i64 0), (.slice none 0 0), (.bool false), (.bool false)]), 5, 64, true, (.struct [(80, 0), (3, 1), (80, 2), (4, 3), (4, 4)])⟩),
    (199, ⟨(.pointer none), 1, 8, false, .other⟩),
    (209, ⟨(.int .u64 0), 1, 8, false, (.int .u64)⟩),
    (249, ⟨.nilFunc, 1, 8, false, .other⟩),
    (310, ⟨(.pointer none), 1, 8, false, .other⟩),
    (314, ⟨(.int .i64 0), 1, 8, false, (.int .i64)⟩),
    (348, ⟨(.pointer none), 1, 8, false, .other⟩),
    (353, ⟨(.int .u64 0), 1, 8, false, (.int .u64)⟩)]
theorem mixed0 : (Tryz.prog).follows .mixedOrders = true := by kernel_rfl
theorem tys0 : TysOK Tryz.prog tys := tys_ok (by kernel_rfl)
theorem E0ok : EnvOK ⟨Tryz.prog, tys, [], [], [], []⟩ := env_ok mixed0 tys0 .nil .nil .nil rfl
/-- What the library's variables hold. -/
class Laid : Prop where
  maxlen : ∀ w, Sub Glob.mem w → ∃ n, w.cell? ⟨2, 0, none⟩ = some (.int .i64 n)
/-- What the tables of numbers hold. -/
class Nums : Prop where
  pow10 : ∀ w, Sub Glob.mem w → Lib.TabIs Tryz.prog w "internal/strconv.uint64pow10" .u64 Lib.pow10Tab
/-- The library's errors. -/
class Errs : Prop where
  syn : ∀ w, Sub Glob.mem w → ∃ tp p, w.var? Tryz.prog "strconv.ErrSyntax" = some #[.iface tp p]
  rng : ∀ w, Sub Glob.mem w → ∃ tp p, w.var? Tryz.prog "strconv.ErrRange" = some #[.iface tp p]
end Gv
namespace Gv
variable [Glob] [Laid]
theorem word1_ca : callable Tryz.prog 101 = true := by kernel_rfl
def word1_S : Spec := fun args K => ∃ (c : UInt8), args = [byteV c] ∧ K (.bool (!wordByte c))
noncomputable def word1_lib : List (Nat × Spec) := []
noncomputable def word1_fns : List (Nat × FnI) := []
noncomputable def word1_prims : List (Nat × PSpec) := []
theorem word1_E : EnvOK ⟨Tryz.prog, tys, word1_lib, word1_fns, word1_prims, []⟩ := env_ok mixed0 tys0 .nil .nil .nil rfl
set_option maxHeartbeats 4000000 in
theorem word1_ok : Pure Tryz.prog 101 word1_S := by
  refine pure_by word1_E 6 (fi := {fn := Tryz.f101, hooks := [], draws := []}) ⟨Tryz.func101, by kernel_rfl, by kernel_rfl⟩ ?_
  rintro _ K ⟨c, rfl, hK⟩
  replace hK : ∀ r, r = .bool (!wordByte c) → K r := fun r h => h ▸ hK
  repeat' (first | exact True.intro | refine ⟨_, LeL.refl _, ?_⟩ | refine ⟨_, _, _, LeL.refl _, ?_⟩ | (refine fun (b : Bool) hb => ?_; cases b <;> (first | exact absurd hb (by decide) | exact Bool.noConfusion (show true = false from hb) | exact Bool.noConfusion (show false = true from hb) | skip)) | (refine fun (hl : _ ≤ MAXL) => ?_) | refine And.intro (a := I64 _) ?_ ?_ | refine And.intro (a := _ ≤ 140737488355328) ?_ ?_ | refine ⟨_, ⟨rfl, rfl⟩, ?_⟩ | refine ⟨_, And.intro (a := I64 _) ?_ ⟨rfl, rfl⟩, ?_⟩ | refine ⟨_, _, ⟨rfl, rfl⟩, ?_⟩ | refine ⟨_, (fun _ => ⟨rfl, rfl⟩), ?_⟩ | refine And.intro (a := chkPend _ _ _ _ _ _) ?_ ?_ | refine And.intro (a := chkPast _ _ _ _ _ _ _ _) ?_ ?_ | refine ⟨⟨rfl, rfl⟩, ?_⟩ | refine And.intro (And.intro rfl rfl) ?_ | refine ⟨True.intro, ?_⟩ | refine ⟨_, ⟨_, rfl, ?_, rfl, rfl, rfl⟩, ?_⟩ | refine ⟨_, rfl, ?_, rfl, ?_⟩ | refine ⟨_, (fun _ => rfl), rfl, ?_⟩ | refine ⟨(fun _ => rfl), ?_⟩ | refine ⟨rfl, ?_⟩ | refine Opt.a ?_ | fail)
  all_goals (refine hK _ ?_; unfold wordByte; congr 1; grind)
end Gv
namespace Gv
variable [Glob] [Laid]
theorem word_ca : callable Tryz.prog 32 = true := by kernel_rfl
def word_S : Spec := fun args K => ∃ (s : Bs), args = [.str s] ∧ K (.bool (isWord s))
noncomputable def word_lib : List (Nat × Spec) := [(101, word1_S)]
noncomputable def word_fns : List (Nat × FnI) := [(100, {fn := Tryz.f100, hooks := [], draws := []}), (162, {fn := Tryz.f162, hooks := [], draws := []})]
noncomputable def word_prims : List (Nat × PSpec) := []
theorem word_E : EnvOK ⟨Tryz.prog, tys, word_lib, word_fns, word_prims, []⟩ := env_ok mixed0 tys0 (.cons word1_ca word1_ok .nil) (.cons (by kernel_rfl) ⟨Tryz.func100, by kernel_rfl, by kernel_rfl⟩ (.cons (by kernel_rfl) ⟨Tryz.func162, by kernel_rfl, by kernel_rfl⟩ .nil)) .nil rfl
set_option maxHeartbeats 4000000 in
theorem word_ok : Pure Tryz.prog 32 word_S := by
  refine pure_by word_E 6 (fi := {fn := Tryz.f32, hooks := [], draws := []}) ⟨Tryz.func32, by kernel_rfl, by kernel_rfl⟩ ?_
  rintro _ K ⟨s, rfl, hK⟩
  replace hK : ∀ r, r = .bool (isWord s) → K r := fun r h => h ▸ hK
  repeat' (first | exact True.intro | refine ⟨_, LeL.refl _, ?_⟩ | refine ⟨_, _, _, LeL.refl _, ?_⟩ | (refine fun (b : Bool) hb => ?_; cases b <;> (first | exact absurd hb (by decide) | exact Bool.noConfusion (show true = false from hb) | exact Bool.noConfusion (show false = true from hb) | skip)) | (refine fun (hl : _ ≤ MAXL) => ?_) | refine And.intro (a := I64 _) ?_ ?_ | refine And.intro (a := _ ≤ 140737488355328) ?_ ?_ | refine ⟨_, ⟨rfl, rfl⟩, ?_⟩ | refine ⟨_, And.intro (a := I64 _) ?_ ⟨rfl, rfl⟩, ?_⟩ | refine ⟨_, _, ⟨rfl, rfl⟩, ?_⟩ | refine ⟨_, (fun _ => ⟨rfl, rfl⟩), ?_⟩ | refine And.intro (a := chkPend _ _ _ _ _ _) ?_ ?_ | refine And.intro (a := chkPast _ _ _ _ _ _ _ _) ?_ ?_ | refine ⟨⟨rfl, rfl⟩, ?_⟩ | refine And.intro (And.intro rfl rfl) ?_ | refine ⟨True.intro, ?_⟩ | refine ⟨_, ⟨_, rfl, ?_, rfl, rfl, rfl⟩, ?_⟩ | refine ⟨_, rfl, ?_, rfl, ?_⟩ | refine ⟨_, (fun _ => rfl), rfl, ?_⟩ | refine ⟨(fun _ => rfl), ?_⟩ | refine ⟨rfl, ?_⟩ | refine Opt.a ?_ | fail)
  · refine hK _ ?_
    have h : (!decide (s = [])) = false := by assumption
    have : s = [] := by simpa using h
    subst this; rfl
  · refine hK _ ?_
    have h : decide ((s.length : Int) ≤ 12) = false := by assumption
    have h2 : ¬ s.length ≤ 12 := by
      intro h3
      have : ((s.length : Int) ≤ 12) := by omega
      simp [this] at h
    simp [isWord, h2]
  · have h : decide ((s.length : Int) ≤ 12) = true := by assumption
    have h2 : (s.length : Int) ≤ 12 := by simpa using h
    omega
  have hw : ∃ t : Bool, isWord s = t ∧ t = s.all wordByte := by
    have h : (!decide (s = [])) = true := by assumption
    have h1 : s ≠ [] := by simpa using h
    have h : decide ((s.length : Int) ≤ 12) = true := by assumption
    have h2 : (s.length : Int) ≤ 12 := by simpa using h
    have h3 : s.length ≤ 12 := by omega
    exact ⟨s.all wordByte, by simp [isWord, h1, h3], rfl⟩
  obtain ⟨t, ht, hta⟩ := hw
  rw [ht] at hK
  conv => whnf
  refine loop_live [0, 1, 7] (σ := Nat) (fun i => [(8, .int .i64 i)]) (fun _ => []) (fun i => i ≤ s.length ∧ (s.take i).all wordByte = true) (fun i => s.length - i) 0 ?_
  conv => whnf
  refine ⟨(by (refine wk_sel [] rfl rfl ?_ ?_ <;> (repeat' (first | exact True.intro | exact rfl | exact Or.inl rfl | exact Or.inr rfl | refine And.intro ?_ ?_ | fail)))), ⟨Nat.zero_le _, rfl⟩, fun i hi => ?_⟩
  obtain ⟨hi, hI⟩ := hi
  repeat' (first | exact True.intro | refine ⟨_, LeL.refl _, ?_⟩ | refine ⟨_, _, _, LeL.refl _, ?_⟩ | (refine fun (b : Bool) hb => ?_; cases b <;> (first | exact absurd hb (by decide) | exact Bool.noConfusion (show true = false from hb) | exact Bool.noConfusion (show false = true from hb) | skip)) | (refine fun (hl : _ ≤ MAXL) => ?_) | refine And.intro (a := I64 _) ?_ ?_ | refine And.intro (a := _ ≤ 140737488355328) ?_ ?_ | refine ⟨_, ⟨rfl, rfl⟩, ?_⟩ | refine ⟨_, And.intro (a := I64 _) ?_ ⟨rfl, rfl⟩, ?_⟩ | refine ⟨_, _, ⟨rfl, rfl⟩, ?_⟩ | refine ⟨_, (fun _ => ⟨rfl, rfl⟩), ?_⟩ | refine And.intro (a := chkPend _ _ _ _ _ _) ?_ ?_ | refine And.intro (a := chkPast _ _ _ _ _ _ _ _) ?_ ?_ | refine ⟨⟨rfl, rfl⟩, ?_⟩ | refine And.intro (And.intro rfl rfl) ?_ | refine ⟨True.intro, ?_⟩ | refine ⟨_, ⟨_, rfl, ?_, rfl, rfl, rfl⟩, ?_⟩ | refine ⟨_, rfl, ?_, rfl, ?_⟩ | refine ⟨_, (fun _ => rfl), rfl, ?_⟩ | refine ⟨(fun _ => rfl), ?_⟩ | refine ⟨rfl, ?_⟩ | refine Opt.a ?_ | fail)
  · have e : s.take i = s := List.take_of_length_le (by grind)
    rw [e] at hI
    refine hK _ ?_
    rw [hta, hI]
    rfl
  · grind
  have hi2 : i < s.length := by grind
  refine ⟨s[i], rfl, ?_⟩
  have hts : s.take (i + 1) = s.take i ++ [s[i]] := List.take_succ_eq_append_getElem hi2
  repeat' (first | exact True.intro | refine ⟨_, LeL.refl _, ?_⟩ | refine ⟨_, _, _, LeL.refl _, ?_⟩ | (refine fun (b : Bool) hb => ?_; cases b <;> (first | exact absurd hb (by decide) | exact Bool.noConfusion (show true = false from hb) | exact Bool.noConfusion (show false = true from hb) | skip)) | (refine fun (hl : _ ≤ MAXL) => ?_) | refine And.intro (a := I64 _) ?_ ?_ | refine And.intro (a := _ ≤ 140737488355328) ?_ ?_ | refine ⟨_, ⟨rfl, rfl⟩, ?_⟩ | refine ⟨_, And.intro (a := I64 _) ?_ ⟨rfl, rfl⟩, ?_⟩ | refine ⟨_, _, ⟨rfl, rfl⟩, ?_⟩ | refine ⟨_, (fun _ => ⟨rfl, rfl⟩), ?_⟩ | refine And.intro (a := chkPend _ _ _ _ _ _) ?_ ?_ | refine And.intro (a := chkPast _ _ _ _ _ _ _ _) ?_ ?_ | refine ⟨⟨rfl, rfl⟩, ?_⟩ | refine And.intro (And.intro rfl rfl) ?_ | refine ⟨True.intro, ?_⟩ | refine ⟨_, ⟨_, rfl, ?_, rfl, rfl, rfl⟩, ?_⟩ | refine ⟨_, rfl, ?_, rfl, ?_⟩ | refine ⟨_, (fun _ => rfl), rfl, ?_⟩ | refine ⟨(fun _ => rfl), ?_⟩ | refine ⟨rfl, ?_⟩ | refine Opt.a ?_ | fail)
  · (first | omega | (unfold I64; omega) | (simp only [List.length_append, List.length_map, List.length_cons, List.length_nil, Nat.mul_one, Int.ofNat_eq_natCast] at *; omega) | (dsimp only at *; omega) | (unfold I64; dsimp only at *; omega) | (unfold I64; grind) | grind)
  · refine ⟨i + 1, (by (refine wk_sel [] rfl rfl ?_ ?_ <;> (repeat' (first | exact True.intro | exact rfl | exact Or.inl rfl | exact Or.inr rfl | refine And.intro ?_ ?_ | fail)))), ⟨by omega, ?_⟩, by omega⟩
    rw [hts, List.all_append, hI]
    grind
  · refine hK _ ?_
    have h1 : wordByte s[i] = false := by grind
    have h2 : s.all wordByte = false := by
      rw [List.all_eq_false]
      exact ⟨s[i], List.getElem_mem hi2, by simp [h1]⟩
    rw [hta, h2]
    simp
end Gv
namespace Gv
variable [Glob] [Laid]
theorem ccheck_ca : callable Tryz.prog 31 = true := by kernel_rfl
def ccheck_S : Spec := fun args K => ∃ (k : Int) (s : Bs) (n : Int), args = [.agg [.int .i64 k, .str s, .int .i64 n]] ∧ K (.int .i64 (checkCmd ⟨k, s, n⟩))
noncomputable def ccheck_lib : List (Nat × Spec) := [(32, word_S)]
noncomputable def ccheck_fns : List (Nat × FnI) := []
noncomputable def ccheck_prims : List (Nat × PSpec) := []
theorem ccheck_E : EnvOK ⟨Tryz.prog, tys, ccheck_lib, ccheck_fns, ccheck_prims, []⟩ := env_ok mixed0 tys0 (.cons word_ca word_ok .nil) .nil .nil rfl
set_option maxHeartbeats 4000000 in
theorem ccheck_ok : Pure Tryz.prog 31 ccheck_S := by
  refine pure_by ccheck_E 6 (fi := {fn := Tryz.f31, hooks := [4, 5, 7, 9], draws := []}) ⟨Tryz.func31, by kernel_rfl, by kernel_rfl⟩ ?_
  rintro _ K ⟨k, s, n, rfl, hK⟩
  replace hK : ∀ r, r = .int .i64 (checkCmd ⟨k, s, n⟩) → K r := fun r h => h ▸ hK
  obtain ⟨uw, huw⟩ : ∃ b, useWord ⟨k, s, n⟩ = b := ⟨_, rfl⟩
  obtain ⟨un, hun⟩ : ∃ b, useN ⟨k, s, n⟩ = b := ⟨_, rfl⟩
  have hc : checkCmd ⟨k, s, n⟩ = if k < 1 ∨ 10 < k then 4 else if (uw = false ∧ s ≠ []) ∨ (un = false ∧ n ≠ 0) then 4 else if un = true ∧ (n < 1 ∨ 1000 < n) then 3 else if (uw = true ∧ isWord s = false) ∨ (k = 3 ∧ s.length ≠ 2) then 1 else 0 := by
    unfold checkCmd
    rw [huw, hun]
  rw [hc] at hK
  clear hc
  simp only [useWord] at huw
  simp only [useN] at hun
  repeat' (first | exact True.intro | refine ⟨_, LeL.refl _, ?_⟩ | refine ⟨_, _, _, LeL.refl _, ?_⟩ | (refine fun (b : Bool) hb => ?_; cases b <;> (first | exact absurd hb (by decide) | exact Bool.noConfusion (show true = false from hb) | exact Bool.noConfusion (show false = true from hb) | skip)) | (refine fun (hl : _ ≤ MAXL) => ?_) | refine And.intro (a := I64 _) ?_ ?_ | refine And.intro (a := _ ≤ 140737488355328) ?_ ?_ | refine ⟨_, ⟨rfl, rfl⟩, ?_⟩ | refine ⟨_, And.intro (a := I64 _) ?_ ⟨rfl, rfl⟩, ?_⟩ | refine ⟨_, _, ⟨rfl, rfl⟩, ?_⟩ | refine ⟨_, (fun _ => ⟨rfl, rfl⟩), ?_⟩ | refine And.intro (a := chkPend _ _ _ _ _ _) ?_ ?_ | refine And.intro (a := chkPast _ _ _ _ _ _ _ _) ?_ ?_ | refine ⟨⟨rfl, rfl⟩, ?_⟩ | refine And.intro (And.intro rfl rfl) ?_ | refine ⟨True.intro, ?_⟩ | refine ⟨_, ⟨_, rfl, ?_, rfl, rfl, rfl⟩, ?_⟩ | refine ⟨_, rfl, ?_, rfl, ?_⟩ | refine ⟨_, (fun _ => rfl), rfl, ?_⟩ | refine ⟨(fun _ => rfl), ?_⟩ | refine ⟨rfl, ?_⟩ | refine Opt.a ?_ | fail)
  rotate_left
  · exact hK _ (by rw [if_pos (by grind)])
  · exact hK _ (by rw [if_pos (by grind)])
  have h1 : ¬ (k < 1 ∨ 10 < k) := by grind
  simp only [h1, if_false] at hK
  conv => whnf
  refine join_live [1] (σ := Bool) (fun b => [(3, .bool b)]) (fun _ => [.box [.int .i64 k, .str s, .int .i64 n]]) (fun b => b = uw) ?_
  conv => whnf
  refine ⟨?_, fun b hbu => ?_⟩
  · repeat' (first | exact True.intro | refine ⟨_, LeL.refl _, ?_⟩ | refine ⟨_, _, _, LeL.refl _, ?_⟩ | (refine fun (b : Bool) hb => ?_; cases b <;> (first | exact absurd hb (by decide) | exact Bool.noConfusion (show true = false from hb) | exact Bool.noConfusion (show false = true from hb) | skip)) | (refine fun (hl : _ ≤ MAXL) => ?_) | refine And.intro (a := I64 _) ?_ ?_ | refine And.intro (a := _ ≤ 140737488355328) ?_ ?_ | refine ⟨_, ⟨rfl, rfl⟩, ?_⟩ | refine ⟨_, And.intro (a := I64 _) ?_ ⟨rfl, rfl⟩, ?_⟩ | refine ⟨_, _, ⟨rfl, rfl⟩, ?_⟩ | refine ⟨_, (fun _ => ⟨rfl, rfl⟩), ?_⟩ | refine And.intro (a := chkPend _ _ _ _ _ _) ?_ ?_ | refine And.intro (a := chkPast _ _ _ _ _ _ _ _) ?_ ?_ | refine ⟨⟨rfl, rfl⟩, ?_⟩ | refine And.intro (And.intro rfl rfl) ?_ | refine ⟨True.intro, ?_⟩ | refine ⟨_, ⟨_, rfl, ?_, rfl, rfl, rfl⟩, ?_⟩ | refine ⟨_, rfl, ?_, rfl, ?_⟩ | refine ⟨_, (fun _ => rfl), rfl, ?_⟩ | refine ⟨(fun _ => rfl), ?_⟩ | refine ⟨rfl, ?_⟩ | refine Opt.a ?_ | fail)
    all_goals (refine ⟨_, by refine wk_sel [some 0] rfl rfl ?_ ?_ <;> (repeat' (first | exact True.intro | exact rfl | exact Or.inl rfl | exact Or.inr rfl | refine And.intro ?_ ?_ | fail)), ?_⟩; rw [← huw]; simp_all)
  obtain rfl : uw = b := hbu.symm
  clear huw
  conv => whnf
  refine join_live [1, 3] (σ := Bool) (fun b => [(4, .bool b)]) (fun _ => [.box [.int .i64 k, .str s, .int .i64 n]]) (fun b => b = un) ?_
  conv => whnf
  refine ⟨?_, fun b hbu => ?_⟩
  · repeat' (first | exact True.intro | refine ⟨_, LeL.refl _, ?_⟩ | refine ⟨_, _, _, LeL.refl _, ?_⟩ | (refine fun (b : Bool) hb => ?_; cases b <;> (first | exact absurd hb (by decide) | exact Bool.noConfusion (show true = false from hb) | exact Bool.noConfusion (show false = true from hb) | skip)) | (refine fun (hl : _ ≤ MAXL) => ?_) | refine And.intro (a := I64 _) ?_ ?_ | refine And.intro (a := _ ≤ 140737488355328) ?_ ?_ | refine ⟨_, ⟨rfl, rfl⟩, ?_⟩ | refine ⟨_, And.intro (a := I64 _) ?_ ⟨rfl, rfl⟩, ?_⟩ | refine ⟨_, _, ⟨rfl, rfl⟩, ?_⟩ | refine ⟨_, (fun _ => ⟨rfl, rfl⟩), ?_⟩ | refine And.intro (a := chkPend _ _ _ _ _ _) ?_ ?_ | refine And.intro (a := chkPast _ _ _ _ _ _ _ _) ?_ ?_ | refine ⟨⟨rfl, rfl⟩, ?_⟩ | refine And.intro (And.intro rfl rfl) ?_ | refine ⟨True.intro, ?_⟩ | refine ⟨_, ⟨_, rfl, ?_, rfl, rfl, rfl⟩, ?_⟩ | refine ⟨_, rfl, ?_, rfl, ?_⟩ | refine ⟨_, (fun _ => rfl), rfl, ?_⟩ | refine ⟨(fun _ => rfl), ?_⟩ | refine ⟨rfl, ?_⟩ | refine Opt.a ?_ | fail)
    all_goals (refine ⟨_, by refine wk_sel [some 0] rfl rfl ?_ ?_ <;> (repeat' (first | exact True.intro | exact rfl | exact Or.inl rfl | exact Or.inr rfl | refine And.intro ?_ ?_ | fail)), ?_⟩; rw [← hun]; simp_all)
  obtain rfl : un = b := hbu.symm
  clear hun
  conv => whnf
  refine join_live [1, 3, 4] (σ := Unit) (fun b => []) (fun _ => [.box [.int .i64 k, .str s, .int .i64 n]]) (fun b => ¬ ((uw = false ∧ s ≠ []) ∨ (un = false ∧ n ≠ 0))) ?_
  conv => whnf
  refine ⟨?_, fun _ h2 => ?_⟩
  · repeat' (first | exact True.intro | refine ⟨_, LeL.refl _, ?_⟩ | refine ⟨_, _, _, LeL.refl _, ?_⟩ | (refine fun (b : Bool) hb => ?_; cases b <;> (first | exact absurd hb (by decide) | exact Bool.noConfusion (show true = false from hb) | exact Bool.noConfusion (show false = true from hb) | skip)) | (refine fun (hl : _ ≤ MAXL) => ?_) | refine And.intro (a := I64 _) ?_ ?_ | refine And.intro (a := _ ≤ 140737488355328) ?_ ?_ | refine ⟨_, ⟨rfl, rfl⟩, ?_⟩ | refine ⟨_, And.intro (a := I64 _) ?_ ⟨rfl, rfl⟩, ?_⟩ | refine ⟨_, _, ⟨rfl, rfl⟩, ?_⟩ | refine ⟨_, (fun _ => ⟨rfl, rfl⟩), ?_⟩ | refine And.intro (a := chkPend _ _ _ _ _ _) ?_ ?_ | refine And.intro (a := chkPast _ _ _ _ _ _ _ _) ?_ ?_ | refine ⟨⟨rfl, rfl⟩, ?_⟩ | refine And.intro (And.intro rfl rfl) ?_ | refine ⟨True.intro, ?_⟩ | refine ⟨_, ⟨_, rfl, ?_, rfl, rfl, rfl⟩, ?_⟩ | refine ⟨_, rfl, ?_, rfl, ?_⟩ | refine ⟨_, (fun _ => rfl), rfl, ?_⟩ | refine ⟨(fun _ => rfl), ?_⟩ | refine ⟨rfl, ?_⟩ | refine Opt.a ?_ | fail)
    all_goals (conv => whnf)
    all_goals first
      | (refine ⟨(), (by (refine wk_sel [some 0] rfl rfl ?_ ?_ <;> (repeat' (first | exact True.intro | exact rfl | exact Or.inl rfl | exact Or.inr rfl | refine And.intro ?_ ?_ | fail)))), ?_⟩; simp_all; done)
      | (refine hK _ ?_; rw [if_pos]; simp_all; done)
  simp only [h2, if_false] at hK
  conv => whnf
  refine join_live [1, 3] (σ := Unit) (fun b => []) (fun _ => [.box [.int .i64 k, .str s, .int .i64 n]]) (fun b => ¬ (un = true ∧ (n < 1 ∨ 1000 < n))) ?_
  conv => whnf
  refine ⟨?_, fun _ h3 => ?_⟩
  · repeat' (first | exact True.intro | refine ⟨_, LeL.refl _, ?_⟩ | refine ⟨_, _, _, LeL.refl _, ?_⟩ | (refine fun (b : Bool) hb => ?_; cases b <;> (first | exact absurd hb (by decide) | exact Bool.noConfusion (show true = false from hb) | exact Bool.noConfusion (show false = true from hb) | skip)) | (refine fun (hl : _ ≤ MAXL) => ?_) | refine And.intro (a := I64 _) ?_ ?_ | refine And.intro (a := _ ≤ 140737488355328) ?_ ?_ | refine ⟨_, ⟨rfl, rfl⟩, ?_⟩ | refine ⟨_, And.intro (a := I64 _) ?_ ⟨rfl, rfl⟩, ?_⟩ | refine ⟨_, _, ⟨rfl, rfl⟩, ?_⟩ | refine ⟨_, (fun _ => ⟨rfl, rfl⟩), ?_⟩ | refine And.intro (a := chkPend _ _ _ _ _ _) ?_ ?_ | refine And.intro (a := chkPast _ _ _ _ _ _ _ _) ?_ ?_ | refine ⟨⟨rfl, rfl⟩, ?_⟩ | refine And.intro (And.intro rfl rfl) ?_ | refine ⟨True.intro, ?_⟩ | refine ⟨_, ⟨_, rfl, ?_, rfl, rfl, rfl⟩, ?_⟩ | refine ⟨_, rfl, ?_, rfl, ?_⟩ | refine ⟨_, (fun _ => rfl), rfl, ?_⟩ | refine ⟨(fun _ => rfl), ?_⟩ | refine ⟨rfl, ?_⟩ | refine Opt.a ?_ | fail)
    all_goals (conv => whnf)
    all_goals first
      | (refine ⟨(), (by (refine wk_sel [some 0] rfl rfl ?_ ?_ <;> (repeat' (first | exact True.intro | exact rfl | exact Or.inl rfl | exact Or.inr rfl | refine And.intro ?_ ?_ | fail)))), ?_⟩; simp_all; done)
      | (refine hK _ ?_; rw [if_pos]; simp_all; done)
  simp only [h3, if_false] at hK
  repeat' (first | exact True.intro | refine ⟨_, LeL.refl _, ?_⟩ | refine ⟨_, _, _, LeL.refl _, ?_⟩ | (refine fun (b : Bool) hb => ?_; cases b <;> (first | exact absurd hb (by decide) | exact Bool.noConfusion (show true = false from hb) | exact Bool.noConfusion (show false = true from hb) | skip)) | (refine fun (hl : _ ≤ MAXL) => ?_) | refine And.intro (a := I64 _) ?_ ?_ | refine And.intro (a := _ ≤ 140737488355328) ?_ ?_ | refine ⟨_, ⟨rfl, rfl⟩, ?_⟩ | refine ⟨_, And.intro (a := I64 _) ?_ ⟨rfl, rfl⟩, ?_⟩ | refine ⟨_, _, ⟨rfl, rfl⟩, ?_⟩ | refine ⟨_, (fun _ => ⟨rfl, rfl⟩), ?_⟩ | refine And.intro (a := chkPend _ _ _ _ _ _) ?_ ?_ | refine And.intro (a := chkPast _ _ _ _ _ _ _ _) ?_ ?_ | refine ⟨⟨rfl, rfl⟩, ?_⟩ | refine And.intro (And.intro rfl rfl) ?_ | refine ⟨True.intro, ?_⟩ | refine ⟨_, ⟨_, rfl, ?_, rfl, rfl, rfl⟩, ?_⟩ | refine ⟨_, rfl, ?_, rfl, ?_⟩ | refine ⟨_, (fun _ => rfl), rfl, ?_⟩ | refine ⟨(fun _ => rfl), ?_⟩ | refine ⟨rfl, ?_⟩ | refine Opt.a ?_ | fail)
  all_goals (conv => whnf)
  any_goals first
      | (refine hK _ ?_; rw [if_pos]; simp_all; done)
      | (refine hK _ ?_; rw [if_neg]; simp_all; done)
  refine ⟨s, rfl, ?_⟩
  repeat' (first | exact True.intro | refine ⟨_, LeL.refl _, ?_⟩ | refine ⟨_, _, _, LeL.refl _, ?_⟩ | (refine fun (b : Bool) hb => ?_; cases b <;> (first | exact absurd hb (by decide) | exact Bool.noConfusion (show true = false from hb) | exact Bool.noConfusion (show false = true from hb) | skip)) | (refine fun (hl : _ ≤ MAXL) => ?_) | refine And.intro (a := I64 _) ?_ ?_ | refine And.intro (a := _ ≤ 140737488355328) ?_ ?_ | refine ⟨_, ⟨rfl, rfl⟩, ?_⟩ | refine ⟨_, And.intro (a := I64 _) ?_ ⟨rfl, rfl⟩, ?_⟩ | refine ⟨_, _, ⟨rfl, rfl⟩, ?_⟩ | refine ⟨_, (fun _ => ⟨rfl, rfl⟩), ?_⟩ | refine And.intro (a := chkPend _ _ _ _ _ _) ?_ ?_ | refine And.intro (a := chkPast _ _ _ _ _ _ _ _) ?_ ?_ | refine ⟨⟨rfl, rfl⟩, ?_⟩ | refine And.intro (And.intro rfl rfl) ?_ | refine ⟨True.intro, ?_⟩ | refine ⟨_, ⟨_, rfl, ?_, rfl, rfl, rfl⟩, ?_⟩ | refine ⟨_, rfl, ?_, rfl, ?_⟩ | refine ⟨_, (fun _ => rfl), rfl, ?_⟩ | refine ⟨(fun _ => rfl), ?_⟩ | refine ⟨rfl, ?_⟩ | refine Opt.a ?_ | fail)
  all_goals (conv => whnf)
  any_goals first
      | (refine hK _ ?_; rw [if_pos]; simp_all; done)
      | (refine hK _ ?_; rw [if_neg]; simp_all; done)
  · refine hK _ ?_
    rw [if_neg]
    grind
  · refine hK _ ?_
    rw [if_pos]
    grind
end Gv
namespace Gv
variable [Glob] [Laid]
theorem cline_ca : callable Tryz.prog 42 = true := by kernel_rfl
def cline_S : Spec := fun args K => ∃ (f : List Bs) (c : List Cmd) (t : Bs), args = [.agg [.sl strV f, .sl cmdV c, .str t]] ∧ K (.int .i64 (checkLine ⟨f, c, t⟩))
noncomputable def cline_lib : List (Nat × Spec) := [(31, ccheck_S), (32, word_S)]
noncomputable def cline_fns : List (Nat × FnI) := [(113, {fn := Tryz.f113, hooks := [], draws := []})]
noncomputable def cline_prims : List (Nat × PSpec) := []
theorem cline_E : EnvOK ⟨Tryz.prog, tys, cline_lib, cline_fns, cline_prims, []⟩ := env_ok mixed0 tys0 (.cons ccheck_ca ccheck_ok (.cons word_ca word_ok .nil)) (.cons (by kernel_rfl) ⟨Tryz.func113, by kernel_rfl, by kernel_rfl⟩ .nil) .nil rfl
set_option maxHeartbeats 4000000 in
theorem cline_ok : Pure Tryz.prog 42 cline_S := by
  refine pure_by cline_E 6 (fi := {fn := Tryz.f42, hooks := [3], draws := [(3, [0, 1, 3, 0, 8, 24, 63, 127, 0])]}) ⟨Tryz.func42, by kernel_rfl, by kernel_rfl⟩ ?_
  rintro _ K ⟨f, c, t, rfl, hK⟩
  replace hK : ∀ r, r = .int .i64 (checkLine ⟨f, c, t⟩) → K r := fun r h => h ▸ hK
  unfold checkLine at hK
  dsimp only at hK
  conv => whnf
  refine join_live [1] (σ := Unit) (fun b => []) (fun _ => [.box [.sl strV f, .sl cmdV c, .str t]]) (fun b => ¬ (f.length = 0 ∨ 4 < f.length ∨ 6 < c.length)) ?_
  conv => whnf
  refine ⟨?_, fun _ h1 => ?_⟩
  · repeat' (first | exact True.intro | refine ⟨_, LeL.refl _, ?_⟩ | refine ⟨_, _, _, LeL.refl _, ?_⟩ | (refine fun (b : Bool) hb => ?_; cases b <;> (first | exact absurd hb (by decide) | exact Bool.noConfusion (show true = false from hb) | exact Bool.noConfusion (show false = true from hb) | skip)) | (refine fun (hl : _ ≤ MAXL) => ?_) | refine And.intro (a := I64 _) ?_ ?_ | refine And.intro (a := _ ≤ 140737488355328) ?_ ?_ | refine ⟨_, ⟨rfl, rfl⟩, ?_⟩ | refine ⟨_, And.intro (a := I64 _) ?_ ⟨rfl, rfl⟩, ?_⟩ | refine ⟨_, _, ⟨rfl, rfl⟩, ?_⟩ | refine ⟨_, (fun _ => ⟨rfl, rfl⟩), ?_⟩ | refine And.intro (a := chkPend _ _ _ _ _ _) ?_ ?_ | refine And.intro (a := chkPast _ _ _ _ _ _ _ _) ?_ ?_ | refine ⟨⟨rfl, rfl⟩, ?_⟩ | refine And.intro (And.intro rfl rfl) ?_ | refine ⟨True.intro, ?_⟩ | refine ⟨_, ⟨_, rfl, ?_, rfl, rfl, rfl⟩, ?_⟩ | refine ⟨_, rfl, ?_, rfl, ?_⟩ | refine ⟨_, (fun _ => rfl), rfl, ?_⟩ | refine ⟨(fun _ => rfl), ?_⟩ | refine ⟨rfl, ?_⟩ | refine Opt.a ?_ | fail)
    all_goals (conv => whnf)
    all_goals first
      | (refine ⟨(), (by (refine wk_sel [some 0] rfl rfl ?_ ?_ <;> (repeat' (first | exact True.intro | exact rfl | exact Or.inl rfl | exact Or.inr rfl | refine And.intro ?_ ?_ | fail)))), ?_⟩; simp_all; omega)
      | (refine hK _ ?_; rw [if_pos]; simp_all; omega)
      | (refine hK _ ?_; rw [if_pos]; simp_all; done)
  rw [if_neg h1] at hK
  repeat' (first | exact True.intro | refine ⟨_, LeL.refl _, ?_⟩ | refine ⟨_, _, _, LeL.refl _, ?_⟩ | (refine fun (b : Bool) hb => ?_; cases b <;> (first | exact absurd hb (by decide) | exact Bool.noConfusion (show true = false from hb) | exact Bool.noConfusion (show false = true from hb) | skip)) | (refine fun (hl : _ ≤ MAXL) => ?_) | refine And.intro (a := I64 _) ?_ ?_ | refine And.intro (a := _ ≤ 140737488355328) ?_ ?_ | refine ⟨_, ⟨rfl, rfl⟩, ?_⟩ | refine ⟨_, And.intro (a := I64 _) ?_ ⟨rfl, rfl⟩, ?_⟩ | refine ⟨_, _, ⟨rfl, rfl⟩, ?_⟩ | refine ⟨_, (fun _ => ⟨rfl, rfl⟩), ?_⟩ | refine And.intro (a := chkPend _ _ _ _ _ _) ?_ ?_ | refine And.intro (a := chkPast _ _ _ _ _ _ _ _) ?_ ?_ | refine ⟨⟨rfl, rfl⟩, ?_⟩ | refine And.intro (And.intro rfl rfl) ?_ | refine ⟨True.intro, ?_⟩ | refine ⟨_, ⟨_, rfl, ?_, rfl, rfl, rfl⟩, ?_⟩ | refine ⟨_, rfl, ?_, rfl, ?_⟩ | refine ⟨_, (fun _ => rfl), rfl, ?_⟩ | refine ⟨(fun _ => rfl), ?_⟩ | refine ⟨rfl, ?_⟩ | refine Opt.a ?_ | fail)
  conv => whnf
  apply Exists.intro
  apply Exists.intro
  apply And.intro
  · repeat' (first | exact True.intro | refine ⟨_, LeL.refl _, ?_⟩ | refine ⟨_, _, _, LeL.refl _, ?_⟩ | (refine fun (b : Bool) hb => ?_; cases b <;> (first | exact absurd hb (by decide) | exact Bool.noConfusion (show true = false from hb) | exact Bool.noConfusion (show false = true from hb) | skip)) | (refine fun (hl : _ ≤ MAXL) => ?_) | refine And.intro (a := I64 _) ?_ ?_ | refine And.intro (a := _ ≤ 140737488355328) ?_ ?_ | refine ⟨_, ⟨rfl, rfl⟩, ?_⟩ | refine ⟨_, And.intro (a := I64 _) ?_ ⟨rfl, rfl⟩, ?_⟩ | refine ⟨_, _, ⟨rfl, rfl⟩, ?_⟩ | refine ⟨_, (fun _ => ⟨rfl, rfl⟩), ?_⟩ | refine And.intro (a := chkPend _ _ _ _ _ _) ?_ ?_ | refine And.intro (a := chkPast _ _ _ _ _ _ _ _) ?_ ?_ | refine ⟨⟨rfl, rfl⟩, ?_⟩ | refine And.intro (And.intro rfl rfl) ?_ | refine ⟨True.intro, ?_⟩ | refine ⟨_, ⟨_, rfl, ?_, rfl, rfl, rfl⟩, ?_⟩ | refine ⟨_, rfl, ?_, rfl, ?_⟩ | refine ⟨_, (fun _ => rfl), rfl, ?_⟩ | refine ⟨(fun _ => rfl), ?_⟩ | refine ⟨rfl, ?_⟩ | refine Opt.a ?_ | fail)
    · simp only [List.length_nil, List.length_map]
      omega
    · exact rfl
    · exfalso
      have h : true = true → f = [] := by assumption
      simp [h rfl] at h1
  repeat' (first | exact True.intro | refine ⟨_, LeL.refl _, ?_⟩ | refine ⟨_, _, _, LeL.refl _, ?_⟩ | (refine fun (b : Bool) hb => ?_; cases b <;> (first | exact absurd hb (by decide) | exact Bool.noConfusion (show true = false from hb) | exact Bool.noConfusion (show false = true from hb) | skip)) | (refine fun (hl : _ ≤ MAXL) => ?_) | refine And.intro (a := I64 _) ?_ ?_ | refine And.intro (a := _ ≤ 140737488355328) ?_ ?_ | refine ⟨_, ⟨rfl, rfl⟩, ?_⟩ | refine ⟨_, And.intro (a := I64 _) ?_ ⟨rfl, rfl⟩, ?_⟩ | refine ⟨_, _, ⟨rfl, rfl⟩, ?_⟩ | refine ⟨_, (fun _ => ⟨rfl, rfl⟩), ?_⟩ | refine And.intro (a := chkPend _ _ _ _ _ _) ?_ ?_ | refine And.intro (a := chkPast _ _ _ _ _ _ _ _) ?_ ?_ | refine ⟨⟨rfl, rfl⟩, ?_⟩ | refine And.intro (And.intro rfl rfl) ?_ | refine ⟨True.intro, ?_⟩ | refine ⟨_, ⟨_, rfl, ?_, rfl, rfl, rfl⟩, ?_⟩ | refine ⟨_, rfl, ?_, rfl, ?_⟩ | refine ⟨_, (fun _ => rfl), rfl, ?_⟩ | refine ⟨(fun _ => rfl), ?_⟩ | refine ⟨rfl, ?_⟩ | refine Opt.a ?_ | fail)
  refine ⟨_, ⟨Bs, strV, [t], LeL.refl _, rfl, rfl⟩, ?_⟩
  refine ⟨_, _, ⟨fun _ => rfl, ?_, rfl, rfl⟩, ?_⟩
  · simp only [List.length_nil, List.length_map, List.length_append, List.nil_append, elsOf, List.length_cons]
    omega
  have hels : [] ++ f.map strV ++ [t].map strV = (f ++ [t]).map strV := by simp
  repeat' (first | exact True.intro | refine ⟨_, LeL.refl _, ?_⟩ | refine ⟨_, _, _, LeL.refl _, ?_⟩ | (refine fun (b : Bool) hb => ?_; cases b <;> (first | exact absurd hb (by decide) | exact Bool.noConfusion (show true = false from hb) | exact Bool.noConfusion (show false = true from hb) | skip)) | (refine fun (hl : _ ≤ MAXL) => ?_) | refine And.intro (a := I64 _) ?_ ?_ | refine And.intro (a := _ ≤ 140737488355328) ?_ ?_ | refine ⟨_, ⟨rfl, rfl⟩, ?_⟩ | refine ⟨_, And.intro (a := I64 _) ?_ ⟨rfl, rfl⟩, ?_⟩ | refine ⟨_, _, ⟨rfl, rfl⟩, ?_⟩ | refine ⟨_, (fun _ => ⟨rfl, rfl⟩), ?_⟩ | refine And.intro (a := chkPend _ _ _ _ _ _) ?_ ?_ | refine And.intro (a := chkPast _ _ _ _ _ _ _ _) ?_ ?_ | refine ⟨⟨rfl, rfl⟩, ?_⟩ | refine And.intro (And.intro rfl rfl) ?_ | refine ⟨True.intro, ?_⟩ | refine ⟨_, ⟨_, rfl, ?_, rfl, rfl, rfl⟩, ?_⟩ | refine ⟨_, rfl, ?_, rfl, ?_⟩ | refine ⟨_, (fun _ => rfl), rfl, ?_⟩ | refine ⟨(fun _ => rfl), ?_⟩ | refine ⟨rfl, ?_⟩ | refine Opt.a ?_ | fail)
  rw [hels]
  generalize hg : f ++ [t] = g at hK hels ⊢
  have hgl : g.length ≤ 5 := by
    rw [← hg]
    simp only [List.length_append, List.length_cons, List.length_nil]
    omega
  conv => whnf
  refine loop_live [1, 30, 31] (σ := Nat) (fun i => [(32, .int .i64 i)]) (fun _ => [.box [.sl strV f, .sl cmdV c, .str t], .dead, .dead, .row 1 (g.map strV)]) (fun i => i ≤ g.length ∧ (g.take i).all isWord = true) (fun i => g.length - i) 0 ?_
  conv => whnf
  refine ⟨(by (refine wk_sel [some 0, some 1, some 2, some 3] rfl rfl ?_ ?_ <;> (repeat' (first | exact True.intro | exact rfl | exact Or.inl rfl | exact Or.inr rfl | refine And.intro ?_ ?_ | fail)))), ⟨Nat.zero_le _, rfl⟩, fun i hi => ?_⟩
  obtain ⟨hi, hI⟩ := hi
  repeat' (first | exact True.intro | refine ⟨_, LeL.refl _, ?_⟩ | refine ⟨_, _, _, LeL.refl _, ?_⟩ | (refine fun (b : Bool) hb => ?_; cases b <;> (first | exact absurd hb (by decide) | exact Bool.noConfusion (show true = false from hb) | exact Bool.noConfusion (show false = true from hb) | skip)) | (refine fun (hl : _ ≤ MAXL) => ?_) | refine And.intro (a := I64 _) ?_ ?_ | refine And.intro (a := _ ≤ 140737488355328) ?_ ?_ | refine ⟨_, ⟨rfl, rfl⟩, ?_⟩ | refine ⟨_, And.intro (a := I64 _) ?_ ⟨rfl, rfl⟩, ?_⟩ | refine ⟨_, _, ⟨rfl, rfl⟩, ?_⟩ | refine ⟨_, (fun _ => ⟨rfl, rfl⟩), ?_⟩ | refine And.intro (a := chkPend _ _ _ _ _ _) ?_ ?_ | refine And.intro (a := chkPast _ _ _ _ _ _ _ _) ?_ ?_ | refine ⟨⟨rfl, rfl⟩, ?_⟩ | refine And.intro (And.intro rfl rfl) ?_ | refine ⟨True.intro, ?_⟩ | refine ⟨_, ⟨_, rfl, ?_, rfl, rfl, rfl⟩, ?_⟩ | refine ⟨_, rfl, ?_, rfl, ?_⟩ | refine ⟨_, (fun _ => rfl), rfl, ?_⟩ | refine ⟨(fun _ => rfl), ?_⟩ | refine ⟨rfl, ?_⟩ | refine Opt.a ?_ | fail)
  · have e : g.take i = g := List.take_of_length_le (by grind)
    rw [e] at hI
    simp only [hI] at hK
    conv => whnf
    refine loop_live [41, 42] (σ := Nat) (fun i => [(43, .int .i64 i)]) (fun _ => [.box [.sl strV f, .sl cmdV c, .str t], .dead, .dead, .row 1 (g.map strV)]) (fun i => i ≤ c.length ∧ firstBad (c.drop i) = firstBad c) (fun i => c.length - i) 0 ?_
    conv => whnf
    refine ⟨(by (refine wk_sel [some 0, some 1, some 2, some 3] rfl rfl ?_ ?_ <;> (repeat' (first | exact True.intro | exact rfl | exact Or.inl rfl | exact Or.inr rfl | refine And.intro ?_ ?_ | fail)))), ⟨Nat.zero_le _, rfl⟩, fun i hi => ?_⟩
    obtain ⟨hi, hJ⟩ := hi
    repeat' (first | exact True.intro | refine ⟨_, LeL.refl _, ?_⟩ | refine ⟨_, _, _, LeL.refl _, ?_⟩ | (refine fun (b : Bool) hb => ?_; cases b <;> (first | exact absurd hb (by decide) | exact Bool.noConfusion (show true = false from hb) | exact Bool.noConfusion (show false = true from hb) | skip)) | (refine fun (hl : _ ≤ MAXL) => ?_) | refine And.intro (a := I64 _) ?_ ?_ | refine And.intro (a := _ ≤ 140737488355328) ?_ ?_ | refine ⟨_, ⟨rfl, rfl⟩, ?_⟩ | refine ⟨_, And.intro (a := I64 _) ?_ ⟨rfl, rfl⟩, ?_⟩ | refine ⟨_, _, ⟨rfl, rfl⟩, ?_⟩ | refine ⟨_, (fun _ => ⟨rfl, rfl⟩), ?_⟩ | refine And.intro (a := chkPend _ _ _ _ _ _) ?_ ?_ | refine And.intro (a := chkPast _ _ _ _ _ _ _ _) ?_ ?_ | refine ⟨⟨rfl, rfl⟩, ?_⟩ | refine And.intro (And.intro rfl rfl) ?_ | refine ⟨True.intro, ?_⟩ | refine ⟨_, ⟨_, rfl, ?_, rfl, rfl, rfl⟩, ?_⟩ | refine ⟨_, rfl, ?_, rfl, ?_⟩ | refine ⟨_, (fun _ => rfl), rfl, ?_⟩ | refine ⟨(fun _ => rfl), ?_⟩ | refine ⟨rfl, ?_⟩ | refine Opt.a ?_ | fail)
    · refine hK _ ?_
      have e : c.drop i = [] := List.drop_eq_nil_of_le (by grind)
      rw [e] at hJ
      rw [← hJ]
      rfl
    · grind
    · have hi2 : i < c.length := by grind
      have hd : c.drop i = c[i] :: c.drop (i + 1) := List.drop_eq_getElem_cons hi2
      rw [hd] at hJ
      refine ⟨c[i].kind, c[i].word, c[i].n, rfl, ?_⟩
      have hb0 : firstBad (c[i] :: c.drop (i + 1)) = if checkCmd c[i] = 0 then firstBad (c.drop (i + 1)) else checkCmd c[i] := rfl
      have hcc : checkCmd ⟨c[i].kind, c[i].word, c[i].n⟩ = checkCmd c[i] := rfl
      rw [hcc]
      generalize checkCmd c[i] = e at hb0 ⊢
      repeat' (first | exact True.intro | refine ⟨_, LeL.refl _, ?_⟩ | refine ⟨_, _, _, LeL.refl _, ?_⟩ | (refine fun (b : Bool) hb => ?_; cases b <;> (first | exact absurd hb (by decide) | exact Bool.noConfusion (show true = false from hb) | exact Bool.noConfusion (show false = true from hb) | skip)) | (refine fun (hl : _ ≤ MAXL) => ?_) | refine And.intro (a := I64 _) ?_ ?_ | refine And.intro (a := _ ≤ 140737488355328) ?_ ?_ | refine ⟨_, ⟨rfl, rfl⟩, ?_⟩ | refine ⟨_, And.intro (a := I64 _) ?_ ⟨rfl, rfl⟩, ?_⟩ | refine ⟨_, _, ⟨rfl, rfl⟩, ?_⟩ | refine ⟨_, (fun _ => ⟨rfl, rfl⟩), ?_⟩ | refine And.intro (a := chkPend _ _ _ _ _ _) ?_ ?_ | refine And.intro (a := chkPast _ _ _ _ _ _ _ _) ?_ ?_ | refine ⟨⟨rfl, rfl⟩, ?_⟩ | refine And.intro (And.intro rfl rfl) ?_ | refine ⟨True.intro, ?_⟩ | refine ⟨_, ⟨_, rfl, ?_, rfl, rfl, rfl⟩, ?_⟩ | refine ⟨_, rfl, ?_, rfl, ?_⟩ | refine ⟨_, (fun _ => rfl), rfl, ?_⟩ | refine ⟨(fun _ => rfl), ?_⟩ | refine ⟨rfl, ?_⟩ | refine Opt.a ?_ | fail)
      · (first | omega | (unfold I64; omega) | (simp only [List.length_append, List.length_map, List.length_cons, List.length_nil, Nat.mul_one, Int.ofNat_eq_natCast] at *; omega) | (dsimp only at *; omega) | (unfold I64; dsimp only at *; omega) | (unfold I64; grind) | grind)
      · refine ⟨i + 1, (by (refine wk_sel [some 0, some 1, some 2, some 3] rfl rfl ?_ ?_ <;> (repeat' (first | exact True.intro | exact rfl | exact Or.inl rfl | exact Or.inr rfl | refine And.intro ?_ ?_ | fail)))), ⟨by omega, ?_⟩, by omega⟩
        rw [← hJ, hb0, if_pos (by grind)]
      · refine hK _ ?_
        have he : ¬ e = 0 := by grind
        rw [← hJ, hb0]
        simp [he]
  have hi2 : i < g.length := by grind
  refine ⟨i, rfl, by simpa using hi2, ?_⟩
  refine ⟨strV g[i], by simp [hi2], ?_⟩
  refine ⟨g[i], rfl, ?_⟩
  have hts : g.take (i + 1) = g.take i ++ [g[i]] := List.take_succ_eq_append_getElem hi2
  repeat' (first | exact True.intro | refine ⟨_, LeL.refl _, ?_⟩ | refine ⟨_, _, _, LeL.refl _, ?_⟩ | (refine fun (b : Bool) hb => ?_; cases b <;> (first | exact absurd hb (by decide) | exact Bool.noConfusion (show true = false from hb) | exact Bool.noConfusion (show false = true from hb) | skip)) | (refine fun (hl : _ ≤ MAXL) => ?_) | refine And.intro (a := I64 _) ?_ ?_ | refine And.intro (a := _ ≤ 140737488355328) ?_ ?_ | refine ⟨_, ⟨rfl, rfl⟩, ?_⟩ | refine ⟨_, And.intro (a := I64 _) ?_ ⟨rfl, rfl⟩, ?_⟩ | refine ⟨_, _, ⟨rfl, rfl⟩, ?_⟩ | refine ⟨_, (fun _ => ⟨rfl, rfl⟩), ?_⟩ | refine And.intro (a := chkPend _ _ _ _ _ _) ?_ ?_ | refine And.intro (a := chkPast _ _ _ _ _ _ _ _) ?_ ?_ | refine ⟨⟨rfl, rfl⟩, ?_⟩ | refine And.intro (And.intro rfl rfl) ?_ | refine ⟨True.intro, ?_⟩ | refine ⟨_, ⟨_, rfl, ?_, rfl, rfl, rfl⟩, ?_⟩ | refine ⟨_, rfl, ?_, rfl, ?_⟩ | refine ⟨_, (fun _ => rfl), rfl, ?_⟩ | refine ⟨(fun _ => rfl), ?_⟩ | refine ⟨rfl, ?_⟩ | refine Opt.a ?_ | fail)
  · (first | omega | (unfold I64; omega) | (simp only [List.length_append, List.length_map, List.length_cons, List.length_nil, Nat.mul_one, Int.ofNat_eq_natCast] at *; omega) | (dsimp only at *; omega) | (unfold I64; dsimp only at *; omega) | (unfold I64; grind) | grind)
  · refine ⟨i + 1, (by (refine wk_sel [some 0, some 1, some 2, some 3] rfl rfl ?_ ?_ <;> (repeat' (first | exact True.intro | exact rfl | exact Or.inl rfl | exact Or.inr rfl | refine And.intro ?_ ?_ | fail)))), ⟨by omega, ?_⟩, by omega⟩
    rw [hts, List.all_append, hI]
    grind
  · refine hK _ ?_
    have h1 : g.all isWord = false := by
      rw [List.all_eq_false]
      exact ⟨g[i], List.getElem_mem hi2, by grind⟩
    rw [if_pos h1]
end Gv
namespace Gv
variable [Glob] [Laid]
theorem each_ca : callable Tryz.prog 34 = true := by kernel_rfl
def each_S : Spec := fun args K => ∃ (k : Int) (s : Bs) (n : Int), args = [.agg [.int .i64 k, .str s, .int .i64 n]] ∧ K (.bool (each ⟨k, s, n⟩))
noncomputable def each_lib : List (Nat × Spec) := []
noncomputable def each_fns : List (Nat × FnI) := []
noncomputable def each_prims : List (Nat × PSpec) := []
theorem each_E : EnvOK ⟨Tryz.prog, tys, each_lib, each_fns, each_prims, []⟩ := env_ok mixed0 tys0 .nil .nil .nil rfl
set_option maxHeartbeats 4000000 in
theorem each_ok : Pure Tryz.prog 34 each_S := by
  refine pure_by each_E 6 (fi := {fn := Tryz.f34, hooks := [], draws := []}) ⟨Tryz.func34, by kernel_rfl, by kernel_rfl⟩ ?_
  rintro _ K ⟨k, s, n, rfl, hK⟩
  replace hK : ∀ r, r = .bool (each ⟨k, s, n⟩) → K r := fun r h => h ▸ hK
  repeat' (first | exact True.intro | refine ⟨_, LeL.refl _, ?_⟩ | refine ⟨_, _, _, LeL.refl _, ?_⟩ | (refine fun (b : Bool) hb => ?_; cases b <;> (first | exact absurd hb (by decide) | exact Bool.noConfusion (show true = false from hb) | exact Bool.noConfusion (show false = true from hb) | skip)) | (refine fun (hl : _ ≤ MAXL) => ?_) | refine And.intro (a := I64 _) ?_ ?_ | refine And.intro (a := _ ≤ 140737488355328) ?_ ?_ | refine ⟨_, ⟨rfl, rfl⟩, ?_⟩ | refine ⟨_, And.intro (a := I64 _) ?_ ⟨rfl, rfl⟩, ?_⟩ | refine ⟨_, _, ⟨rfl, rfl⟩, ?_⟩ | refine ⟨_, (fun _ => ⟨rfl, rfl⟩), ?_⟩ | refine And.intro (a := chkPend _ _ _ _ _ _) ?_ ?_ | refine And.intro (a := chkPast _ _ _ _ _ _ _ _) ?_ ?_ | refine ⟨⟨rfl, rfl⟩, ?_⟩ | refine And.intro (And.intro rfl rfl) ?_ | refine ⟨True.intro, ?_⟩ | refine ⟨_, ⟨_, rfl, ?_, rfl, rfl, rfl⟩, ?_⟩ | refine ⟨_, rfl, ?_, rfl, ?_⟩ | refine ⟨_, (fun _ => rfl), rfl, ?_⟩ | refine ⟨(fun _ => rfl), ?_⟩ | refine ⟨rfl, ?_⟩ | refine Opt.a ?_ | fail)
  all_goals (refine hK _ ?_; simp only [each]; congr 1; grind)
end Gv
namespace Gv
variable [Glob] [Laid]
def joinFor (c : Cmd) : Int × Int := if checkCmd c = 0 then (howFor c, 0) else (0, checkCmd c)
theorem for_ca : callable Tryz.prog 67 = true := by kernel_rfl
def for_S : Spec := fun args K => ∃ (k : Int) (s : Bs) (n : Int), args = [.agg [.int .i64 k, .str s, .int .i64 n]] ∧ K (.tup [.int .i64 (joinFor ⟨k, s, n⟩).1, .int .i64 (joinFor ⟨k, s, n⟩).2])
noncomputable def for_lib : List (Nat × Spec) := [(31, ccheck_S)]
noncomputable def for_fns : List (Nat × FnI) := []
noncomputable def for_prims : List (Nat × PSpec) := []
theorem for_E : EnvOK ⟨Tryz.prog, tys, for_lib, for_fns, for_prims, []⟩ := env_ok mixed0 tys0 (.cons ccheck_ca ccheck_ok .nil) .nil .nil rfl
set_option maxHeartbeats 4000000 in
theorem for_ok : Pure Tryz.prog 67 for_S := by
  refine pure_by for_E 6 (fi := {fn := Tryz.f67, hooks := [], draws := []}) ⟨Tryz.func67, by kernel_rfl, by kernel_rfl⟩ ?_
  rintro _ K ⟨k, s, n, rfl, hK⟩
  replace hK : ∀ r, r = .tup [.int .i64 (joinFor ⟨k, s, n⟩).1, .int .i64 (joinFor ⟨k, s, n⟩).2] → K r := fun r h => h ▸ hK
  refine ⟨k, s, n, rfl, ?_⟩
  unfold joinFor howFor at hK
  generalize checkCmd ⟨k, s, n⟩ = c at hK ⊢
  repeat' (first | exact True.intro | refine ⟨_, LeL.refl _, ?_⟩ | refine ⟨_, _, _, LeL.refl _, ?_⟩ | (refine fun (b : Bool) hb => ?_; cases b <;> (first | exact absurd hb (by decide) | exact Bool.noConfusion (show true = false from hb) | exact Bool.noConfusion (show false = true from hb) | skip)) | (refine fun (hl : _ ≤ MAXL) => ?_) | refine And.intro (a := I64 _) ?_ ?_ | refine And.intro (a := _ ≤ 140737488355328) ?_ ?_ | refine ⟨_, ⟨rfl, rfl⟩, ?_⟩ | refine ⟨_, And.intro (a := I64 _) ?_ ⟨rfl, rfl⟩, ?_⟩ | refine ⟨_, _, ⟨rfl, rfl⟩, ?_⟩ | refine ⟨_, (fun _ => ⟨rfl, rfl⟩), ?_⟩ | refine And.intro (a := chkPend _ _ _ _ _ _) ?_ ?_ | refine And.intro (a := chkPast _ _ _ _ _ _ _ _) ?_ ?_ | refine ⟨⟨rfl, rfl⟩, ?_⟩ | refine And.intro (And.intro rfl rfl) ?_ | refine ⟨True.intro, ?_⟩ | refine ⟨_, ⟨_, rfl, ?_, rfl, rfl, rfl⟩, ?_⟩ | refine ⟨_, rfl, ?_, rfl, ?_⟩ | refine ⟨_, (fun _ => rfl), rfl, ?_⟩ | refine ⟨(fun _ => rfl), ?_⟩ | refine ⟨rfl, ?_⟩ | refine Opt.a ?_ | fail)
  all_goals (refine hK _ ?_; grind)
end Gv
namespace Gv
variable [Glob] [Laid]
theorem plan_ca : callable Tryz.prog 76 = true := by kernel_rfl
def plan_S : Spec := fun args K => ∃ (f : List Bs) (c : List Cmd) (t : Bs) (w : Int), args = [.agg [.sl strV f, .sl cmdV c, .str t], .int .i64 w] ∧ K (.tup [.agg [.sl nodeV (plan ⟨f, c, t⟩ w).1], .int .i64 (plan ⟨f, c, t⟩ w).2])
noncomputable def plan_lib : List (Nat × Spec) := [(42, cline_S), (34, each_S), (67, for_S)]
noncomputable def plan_fns : List (Nat × FnI) := [(139, {fn := Tryz.f139, hooks := [], draws := [(1, [0, 0, 2, 6, 14, 30, 0, 64, 254, 511, 1023, 2047, 4095])], frz := true}), (140, {fn := Tryz.f140, hooks := [], draws := []}), (141, {fn := Tryz.f141, hooks := [], draws := [(6, [0, 0, 2, 6, 14, 0, 32, 0, 224, 480, 1022, 2047, 4095, 8191])]}), (142, {fn := Tryz.f142, hooks := [], draws := []})]
noncomputable def plan_prims : List (Nat × PSpec) := []
theorem plan_E : EnvOK ⟨Tryz.prog, tys, plan_lib, plan_fns, plan_prims, []⟩ := env_ok mixed0 tys0 (.cons cline_ca cline_ok (.cons each_ca each_ok (.cons for_ca for_ok .nil))) (.cons (by kernel_rfl) ⟨Tryz.func139, by kernel_rfl, by kernel_rfl⟩ (.cons (by kernel_rfl) ⟨Tryz.func140, by kernel_rfl, by kernel_rfl⟩ (.cons (by kernel_rfl) ⟨Tryz.func141, by kernel_rfl, by kernel_rfl⟩ (.cons (by kernel_rfl) ⟨Tryz.func142, by kernel_rfl, by kernel_rfl⟩ .nil)))) .nil rfl
set_option maxHeartbeats 4000000 in
theorem plan_ok : Pure Tryz.prog 76 plan_S := by
  refine pure_by plan_E 6 (fi := {fn := Tryz.f76, hooks := [13, 17, 26], draws := [(10, [0, 0, 2, 6, 14, 0, 0, 64, 224, 480, 1022, 2047, 4095, 8191]), (26, [0, 0, 2, 0, 8, 24, 56, 126, 255])]}) ⟨Tryz.func76, by kernel_rfl, by kernel_rfl⟩ ?_
  rintro _ K ⟨f, c, t, w, rfl, hK⟩
  replace hK : ∀ r, r = .tup [.agg [.sl nodeV (plan ⟨f, c, t⟩ w).1], .int .i64 (plan ⟨f, c, t⟩ w).2] → K r := fun r h => h ▸ hK
  refine ⟨f, c, t, rfl, ?_⟩
  by_cases hc : checkLine ⟨f, c, t⟩ = 0
  rotate_left
  · have e1 : plan ⟨f, c, t⟩ w = ([], checkLine ⟨f, c, t⟩) := by unfold plan; rw [if_pos hc]
    rw [e1] at hK
    generalize checkLine ⟨f, c, t⟩ = e at hc hK ⊢
    repeat' (first | exact True.intro | refine ⟨_, LeL.refl _, ?_⟩ | refine ⟨_, _, _, LeL.refl _, ?_⟩ | (refine fun (b : Bool) hb => ?_; cases b <;> (first | exact absurd hb (by decide) | exact Bool.noConfusion (show true = false from hb) | exact Bool.noConfusion (show false = true from hb) | skip)) | (refine fun (hl : _ ≤ MAXL) => ?_) | refine And.intro (a := I64 _) ?_ ?_ | refine And.intro (a := _ ≤ 140737488355328) ?_ ?_ | refine ⟨_, ⟨rfl, rfl⟩, ?_⟩ | refine ⟨_, And.intro (a := I64 _) ?_ ⟨rfl, rfl⟩, ?_⟩ | refine ⟨_, _, ⟨rfl, rfl⟩, ?_⟩ | refine ⟨_, (fun _ => ⟨rfl, rfl⟩), ?_⟩ | refine And.intro (a := chkPend _ _ _ _ _ _) ?_ ?_ | refine And.intro (a := chkPast _ _ _ _ _ _ _ _) ?_ ?_ | refine ⟨⟨rfl, rfl⟩, ?_⟩ | refine And.intro (And.intro rfl rfl) ?_ | refine ⟨True.intro, ?_⟩ | refine ⟨_, ⟨_, rfl, ?_, rfl, rfl, rfl⟩, ?_⟩ | refine ⟨_, rfl, ?_, rfl, ?_⟩ | refine ⟨_, (fun _ => rfl), rfl, ?_⟩ | refine ⟨(fun _ => rfl), ?_⟩ | refine ⟨rfl, ?_⟩ | refine Opt.a ?_ | refine ⟨Gp.Node, nodeV, ?_⟩ | fail)
    · exfalso
      grind
    · exfalso
      grind
    · exfalso
      grind
    · exact hK _ rfl
  rw [hc]
  by_cases hw : w < 1 ∨ 5 < w
  · have e1 : plan ⟨f, c, t⟩ w = ([], 3) := by unfold plan; rw [if_neg (by simp [hc]), if_pos hw]
    rw [e1] at hK
    repeat' (first | exact True.intro | refine ⟨_, LeL.refl _, ?_⟩ | refine ⟨_, _, _, LeL.refl _, ?_⟩ | (refine fun (b : Bool) hb => ?_; cases b <;> (first | exact absurd hb (by decide) | exact Bool.noConfusion (show true = false from hb) | exact Bool.noConfusion (show false = true from hb) | skip)) | (refine fun (hl : _ ≤ MAXL) => ?_) | refine And.intro (a := I64 _) ?_ ?_ | refine And.intro (a := _ ≤ 140737488355328) ?_ ?_ | refine ⟨_, ⟨rfl, rfl⟩, ?_⟩ | refine ⟨_, And.intro (a := I64 _) ?_ ⟨rfl, rfl⟩, ?_⟩ | refine ⟨_, _, ⟨rfl, rfl⟩, ?_⟩ | refine ⟨_, (fun _ => ⟨rfl, rfl⟩), ?_⟩ | refine And.intro (a := chkPend _ _ _ _ _ _) ?_ ?_ | refine And.intro (a := chkPast _ _ _ _ _ _ _ _) ?_ ?_ | refine ⟨⟨rfl, rfl⟩, ?_⟩ | refine And.intro (And.intro rfl rfl) ?_ | refine ⟨True.intro, ?_⟩ | refine ⟨_, ⟨_, rfl, ?_, rfl, rfl, rfl⟩, ?_⟩ | refine ⟨_, rfl, ?_, rfl, ?_⟩ | refine ⟨_, (fun _ => rfl), rfl, ?_⟩ | refine ⟨(fun _ => rfl), ?_⟩ | refine ⟨rfl, ?_⟩ | refine Opt.a ?_ | refine ⟨Gp.Node, nodeV, ?_⟩ | fail)
    · exfalso
      grind
    · exact hK _ rfl
    · exact hK _ rfl
  have e1 : plan ⟨f, c, t⟩ w = (planNodes ⟨f, c, t⟩ w, 0) := by unfold plan; rw [if_neg (by simp [hc]), if_neg hw]
  rw [e1] at hK
  repeat' (first | exact True.intro | refine ⟨_, LeL.refl _, ?_⟩ | refine ⟨_, _, _, LeL.refl _, ?_⟩ | (refine fun (b : Bool) hb => ?_; cases b <;> (first | exact absurd hb (by decide) | exact Bool.noConfusion (show true = false from hb) | exact Bool.noConfusion (show false = true from hb) | skip)) | (refine fun (hl : _ ≤ MAXL) => ?_) | refine And.intro (a := I64 _) ?_ ?_ | refine And.intro (a := _ ≤ 140737488355328) ?_ ?_ | refine ⟨_, ⟨rfl, rfl⟩, ?_⟩ | refine ⟨_, And.intro (a := I64 _) ?_ ⟨rfl, rfl⟩, ?_⟩ | refine ⟨_, _, ⟨rfl, rfl⟩, ?_⟩ | refine ⟨_, (fun _ => ⟨rfl, rfl⟩), ?_⟩ | refine And.intro (a := chkPend _ _ _ _ _ _) ?_ ?_ | refine And.intro (a := chkPast _ _ _ _ _ _ _ _) ?_ ?_ | refine ⟨⟨rfl, rfl⟩, ?_⟩ | refine And.intro (And.intro rfl rfl) ?_ | refine ⟨True.intro, ?_⟩ | refine ⟨_, ⟨_, rfl, ?_, rfl, rfl, rfl⟩, ?_⟩ | refine ⟨_, rfl, ?_, rfl, ?_⟩ | refine ⟨_, (fun _ => rfl), rfl, ?_⟩ | refine ⟨(fun _ => rfl), ?_⟩ | refine ⟨rfl, ?_⟩ | refine Opt.a ?_ | refine ⟨Gp.Node, nodeV, ?_⟩ | fail)
  rotate_left
  · exfalso
    grind
  · exfalso
    grind
  have hfl : f.length ≤ 4 ∧ 1 ≤ f.length ∧ c.length ≤ 6 := by
    unfold checkLine at hc
    split at hc
    · cases hc
    · rename_i h
      dsimp only at h
      omega
  have hfb : firstBad c = 0 := by
    unfold checkLine at hc
    split at hc
    · cases hc
    · split at hc
      · cases hc
      · exact hc
  have hpl := fun i hi => steps_ok (l := ⟨f, c, t⟩) (wide := w) ⟨hfl.2.1, hfl.1⟩ (by omega) i hi
  have hsr := fun i => srcs_len (f.take i)
  conv => whnf
  refine loop_live [1, 2, 4, 7, 29, 30] (σ := Nat) (fun i => [(31, .int .i64 i)]) (fun i => [.box [.sl strV f, .sl cmdV c, .str t], .box [.nil], .box [.own 3, .own 4], .row 8 ((srcs (f.take i)).nodes.map nodeV), .row 2 ((srcs (f.take i)).cur.map portV)]) (fun i => i ≤ f.length) (fun i => f.length - i) 0 ?_
  conv => whnf
  refine ⟨(by (refine wk_sel [some 0, some 1, some 2, none, none] rfl rfl ?_ ?_ <;> (repeat' (first | exact True.intro | exact rfl | exact Or.inl rfl | exact Or.inr rfl | refine And.intro ?_ ?_ | fail)))), Nat.zero_le _, fun i hi => ?_⟩
  have hsi := hsr i
  have hst : ∀ h : i < f.length, srcs (f.take (i + 1)) = (srcs (f.take i)).src f[i] := fun h => srcs_take h
  have hli : (f.take i).length ≤ 4 := by simp; omega
  obtain ⟨d, hdq⟩ : ∃ d, srcs (f.take i) = d := ⟨_, rfl⟩
  rw [hdq] at hsi hst ⊢
  obtain ⟨hs1, hs2, -⟩ := hsi
  repeat' (first | exact True.intro | refine ⟨_, LeL.refl _, ?_⟩ | refine ⟨_, _, _, LeL.refl _, ?_⟩ | (refine fun (b : Bool) hb => ?_; cases b <;> (first | exact absurd hb (by decide) | exact Bool.noConfusion (show true = false from hb) | exact Bool.noConfusion (show false = true from hb) | skip)) | (refine fun (hl : _ ≤ MAXL) => ?_) | refine And.intro (a := I64 _) ?_ ?_ | refine And.intro (a := _ ≤ 140737488355328) ?_ ?_ | refine ⟨_, ⟨rfl, rfl⟩, ?_⟩ | refine ⟨_, And.intro (a := I64 _) ?_ ⟨rfl, rfl⟩, ?_⟩ | refine ⟨_, _, ⟨rfl, rfl⟩, ?_⟩ | refine ⟨_, (fun _ => ⟨rfl, rfl⟩), ?_⟩ | refine And.intro (a := chkPend _ _ _ _ _ _) ?_ ?_ | refine And.intro (a := chkPast _ _ _ _ _ _ _ _) ?_ ?_ | refine ⟨⟨rfl, rfl⟩, ?_⟩ | refine And.intro (And.intro rfl rfl) ?_ | refine ⟨True.intro, ?_⟩ | refine ⟨_, ⟨_, rfl, ?_, rfl, rfl, rfl⟩, ?_⟩ | refine ⟨_, rfl, ?_, rfl, ?_⟩ | refine ⟨_, (fun _ => rfl), rfl, ?_⟩ | refine ⟨(fun _ => rfl), ?_⟩ | refine ⟨rfl, ?_⟩ | refine Opt.a ?_ | fail)
  rotate_left
  · grind
  · have hi2 : i < f.length := by grind
    apply Exists.intro
    apply Exists.intro
    apply And.intro
    · repeat' (first | exact True.intro | refine ⟨_, LeL.refl _, ?_⟩ | refine ⟨_, _, _, LeL.refl _, ?_⟩ | (refine fun (b : Bool) hb => ?_; cases b <;> (first | exact absurd hb (by decide) | exact Bool.noConfusion (show true = false from hb) | exact Bool.noConfusion (show false = true from hb) | skip)) | (refine fun (hl : _ ≤ MAXL) => ?_) | refine And.intro (a := I64 _) ?_ ?_ | refine And.intro (a := _ ≤ 140737488355328) ?_ ?_ | refine ⟨_, ⟨rfl, rfl⟩, ?_⟩ | refine ⟨_, And.intro (a := I64 _) ?_ ⟨rfl, rfl⟩, ?_⟩ | refine ⟨_, _, ⟨rfl, rfl⟩, ?_⟩ | refine ⟨_, (fun _ => ⟨rfl, rfl⟩), ?_⟩ | refine And.intro (a := chkPend _ _ _ _ _ _) ?_ ?_ | refine And.intro (a := chkPast _ _ _ _ _ _ _ _) ?_ ?_ | refine ⟨⟨rfl, rfl⟩, ?_⟩ | refine And.intro (And.intro rfl rfl) ?_ | refine ⟨True.intro, ?_⟩ | refine ⟨_, ⟨_, rfl, ?_, rfl, rfl, rfl⟩, ?_⟩ | refine ⟨_, rfl, ?_, rfl, ?_⟩ | refine ⟨_, (fun _ => rfl), rfl, ?_⟩ | refine ⟨(fun _ => rfl), ?_⟩ | refine ⟨rfl, ?_⟩ | refine Opt.a ?_ | fail)
      refine ⟨_, ⟨Gp.Port, portV, Gp.Node, nodeV, [srcN f[i]], LeL.refl _, rfl, rfl⟩, ?_⟩
      refine ⟨_, _, ⟨fun _ => rfl, ?_, rfl, rfl⟩, ?_⟩
      · simp only [List.length_map, List.length_cons, List.length_nil, elsOf]
        omega
      repeat' (first | exact True.intro | refine ⟨_, LeL.refl _, ?_⟩ | refine ⟨_, _, _, LeL.refl _, ?_⟩ | (refine fun (b : Bool) hb => ?_; cases b <;> (first | exact absurd hb (by decide) | exact Bool.noConfusion (show true = false from hb) | exact Bool.noConfusion (show false = true from hb) | skip)) | (refine fun (hl : _ ≤ MAXL) => ?_) | refine And.intro (a := I64 _) ?_ ?_ | refine And.intro (a := _ ≤ 140737488355328) ?_ ?_ | refine ⟨_, ⟨rfl, rfl⟩, ?_⟩ | refine ⟨_, And.intro (a := I64 _) ?_ ⟨rfl, rfl⟩, ?_⟩ | refine ⟨_, _, ⟨rfl, rfl⟩, ?_⟩ | refine ⟨_, (fun _ => ⟨rfl, rfl⟩), ?_⟩ | refine And.intro (a := chkPend _ _ _ _ _ _) ?_ ?_ | refine And.intro (a := chkPast _ _ _ _ _ _ _ _) ?_ ?_ | refine ⟨⟨rfl, rfl⟩, ?_⟩ | refine And.intro (And.intro rfl rfl) ?_ | refine ⟨True.intro, ?_⟩ | refine ⟨_, ⟨_, rfl, ?_, rfl, rfl, rfl⟩, ?_⟩ | refine ⟨_, rfl, ?_, rfl, ?_⟩ | refine ⟨_, (fun _ => rfl), rfl, ?_⟩ | refine ⟨(fun _ => rfl), ?_⟩ | refine ⟨rfl, ?_⟩ | refine Opt.a ?_ | fail)
      · simp only [List.length_append, List.length_map, List.length_cons, List.length_nil]
        unfold I64
        omega
      · exact rfl
    · repeat' (first | exact True.intro | refine ⟨_, LeL.refl _, ?_⟩ | refine ⟨_, _, _, LeL.refl _, ?_⟩ | (refine fun (b : Bool) hb => ?_; cases b <;> (first | exact absurd hb (by decide) | exact Bool.noConfusion (show true = false from hb) | exact Bool.noConfusion (show false = true from hb) | skip)) | (refine fun (hl : _ ≤ MAXL) => ?_) | refine And.intro (a := I64 _) ?_ ?_ | refine And.intro (a := _ ≤ 140737488355328) ?_ ?_ | refine ⟨_, ⟨rfl, rfl⟩, ?_⟩ | refine ⟨_, And.intro (a := I64 _) ?_ ⟨rfl, rfl⟩, ?_⟩ | refine ⟨_, _, ⟨rfl, rfl⟩, ?_⟩ | refine ⟨_, (fun _ => ⟨rfl, rfl⟩), ?_⟩ | refine And.intro (a := chkPend _ _ _ _ _ _) ?_ ?_ | refine And.intro (a := chkPast _ _ _ _ _ _ _ _) ?_ ?_ | refine ⟨⟨rfl, rfl⟩, ?_⟩ | refine And.intro (And.intro rfl rfl) ?_ | refine ⟨True.intro, ?_⟩ | refine ⟨_, ⟨_, rfl, ?_, rfl, rfl, rfl⟩, ?_⟩ | refine ⟨_, rfl, ?_, rfl, ?_⟩ | refine ⟨_, (fun _ => rfl), rfl, ?_⟩ | refine ⟨(fun _ => rfl), ?_⟩ | refine ⟨rfl, ?_⟩ | refine Opt.a ?_ | fail)
      refine ⟨_, ⟨Gp.Port, portV, [⟨(((d.nodes.map nodeV ++ [srcN f[i]].map nodeV).length : Nat) : Int) - 1, 0⟩], LeL.refl _, rfl, rfl⟩, ?_⟩
      refine ⟨_, _, ⟨fun _ => rfl, ?_, rfl, rfl⟩, ?_⟩
      · simp only [List.length_map, List.length_cons, List.length_nil, elsOf]
        omega
      repeat' (first | exact True.intro | refine ⟨_, LeL.refl _, ?_⟩ | refine ⟨_, _, _, LeL.refl _, ?_⟩ | (refine fun (b : Bool) hb => ?_; cases b <;> (first | exact absurd hb (by decide) | exact Bool.noConfusion (show true = false from hb) | exact Bool.noConfusion (show false = true from hb) | skip)) | (refine fun (hl : _ ≤ MAXL) => ?_) | refine And.intro (a := I64 _) ?_ ?_ | refine And.intro (a := _ ≤ 140737488355328) ?_ ?_ | refine ⟨_, ⟨rfl, rfl⟩, ?_⟩ | refine ⟨_, And.intro (a := I64 _) ?_ ⟨rfl, rfl⟩, ?_⟩ | refine ⟨_, _, ⟨rfl, rfl⟩, ?_⟩ | refine ⟨_, (fun _ => ⟨rfl, rfl⟩), ?_⟩ | refine And.intro (a := chkPend _ _ _ _ _ _) ?_ ?_ | refine And.intro (a := chkPast _ _ _ _ _ _ _ _) ?_ ?_ | refine ⟨⟨rfl, rfl⟩, ?_⟩ | refine And.intro (And.intro rfl rfl) ?_ | refine ⟨True.intro, ?_⟩ | refine ⟨_, ⟨_, rfl, ?_, rfl, rfl, rfl⟩, ?_⟩ | refine ⟨_, rfl, ?_, rfl, ?_⟩ | refine ⟨_, (fun _ => rfl), rfl, ?_⟩ | refine ⟨(fun _ => rfl), ?_⟩ | refine ⟨rfl, ?_⟩ | refine Opt.a ?_ | fail)
      · (first | omega | (unfold I64; omega) | (simp only [List.length_append, List.length_map, List.length_cons, List.length_nil, Nat.mul_one, Int.ofNat_eq_natCast] at *; omega) | (dsimp only at *; omega) | (unfold I64; dsimp only at *; omega) | (unfold I64; grind) | grind)
      · refine ⟨i + 1, ?_, by omega, by omega⟩
        rw [hst hi2]
        refine wk_sel [some 0, some 1, some 2, some 7, some 8] rfl rfl ⟨?_, ?_, ?_, ?_, ?_, trivial⟩ ?_
        · (repeat' (first | exact True.intro | exact rfl | exact Or.inl rfl | exact Or.inr rfl | refine And.intro ?_ ?_ | fail))
        · (repeat' (first | exact True.intro | exact rfl | exact Or.inl rfl | exact Or.inr rfl | refine And.intro ?_ ?_ | fail))
        · (repeat' (first | exact True.intro | exact rfl | exact Or.inl rfl | exact Or.inr rfl | refine And.intro ?_ ?_ | fail))
        · show Row.row 8 _ = Row.row 8 _
          simp [Desk.src]
        · show Row.row 2 _ = Row.row 2 _
          simp [Desk.src]
        · (repeat' (first | exact True.intro | exact rfl | exact Or.inl rfl | exact Or.inr rfl | refine And.intro ?_ ?_ | fail))
  have hif : i = f.length := by grind
  have hd1 : d.cur.length = f.length := by rw [hs2, hif, List.take_length]
  have hdd : d = srcs f := by rw [← hdq, hif, List.take_length]
  clear hst
  conv => whnf
  refine join_live [1, 2, 4, 7] (σ := Unit) (fun _ => []) (fun _ => [.box [.sl strV f, .sl cmdV c, .str t], .box [.nil], .box [.own 3, .own 4], .row 8 (d.behind.nodes.map nodeV), .row 2 (d.behind.cur.map portV)]) (fun _ => True) ?_
  conv => whnf
  refine ⟨?_, fun _ _ => ?_⟩
  · repeat' (first | exact True.intro | refine ⟨_, LeL.refl _, ?_⟩ | refine ⟨_, _, _, LeL.refl _, ?_⟩ | (refine fun (b : Bool) hb => ?_; cases b <;> (first | exact absurd hb (by decide) | exact Bool.noConfusion (show true = false from hb) | exact Bool.noConfusion (show false = true from hb) | skip)) | (refine fun (hl : _ ≤ MAXL) => ?_) | refine And.intro (a := I64 _) ?_ ?_ | refine And.intro (a := _ ≤ 140737488355328) ?_ ?_ | refine ⟨_, ⟨rfl, rfl⟩, ?_⟩ | refine ⟨_, And.intro (a := I64 _) ?_ ⟨rfl, rfl⟩, ?_⟩ | refine ⟨_, _, ⟨rfl, rfl⟩, ?_⟩ | refine ⟨_, (fun _ => ⟨rfl, rfl⟩), ?_⟩ | refine And.intro (a := chkPend _ _ _ _ _ _) ?_ ?_ | refine And.intro (a := chkPast _ _ _ _ _ _ _ _) ?_ ?_ | refine ⟨⟨rfl, rfl⟩, ?_⟩ | refine And.intro (And.intro rfl rfl) ?_ | refine ⟨True.intro, ?_⟩ | refine ⟨_, ⟨_, rfl, ?_, rfl, rfl, rfl⟩, ?_⟩ | refine ⟨_, rfl, ?_, rfl, ?_⟩ | refine ⟨_, (fun _ => rfl), rfl, ?_⟩ | refine ⟨(fun _ => rfl), ?_⟩ | refine ⟨rfl, ?_⟩ | refine Opt.a ?_ | fail)
    · have e : d.behind = d := by unfold Desk.behind; rw [if_neg (by simp only [List.length_map] at *; grind)]
      refine ⟨(), ?_, trivial⟩
      rw [e]
      exact (by (refine wk_sel [some 0, some 1, some 2, some 3, some 4] rfl rfl ?_ ?_ <;> (repeat' (first | exact True.intro | exact rfl | exact Or.inl rfl | exact Or.inr rfl | refine And.intro ?_ ?_ | fail))))
    have e : d.behind = ⟨d.nodes ++ [joinN 1 zCmd d.cur], [⟨d.nodes.length, 0⟩]⟩ := by unfold Desk.behind; rw [if_pos (by simp only [List.length_map] at *; grind)]
    refine ⟨_, ⟨Gp.Node, nodeV, [joinN 1 zCmd d.cur], LeL.refl _, rfl, rfl⟩, ?_⟩
    refine ⟨_, _, ⟨fun _ => rfl, ?_, rfl, rfl⟩, ?_⟩
    · simp only [List.length_map, List.length_cons, List.length_nil, elsOf]
      omega
    repeat' (first | exact True.intro | refine ⟨_, LeL.refl _, ?_⟩ | refine ⟨_, _, _, LeL.refl _, ?_⟩ | (refine fun (b : Bool) hb => ?_; cases b <;> (first | exact absurd hb (by decide) | exact Bool.noConfusion (show true = false from hb) | exact Bool.noConfusion (show false = true from hb) | skip)) | (refine fun (hl : _ ≤ MAXL) => ?_) | refine And.intro (a := I64 _) ?_ ?_ | refine And.intro (a := _ ≤ 140737488355328) ?_ ?_ | refine ⟨_, ⟨rfl, rfl⟩, ?_⟩ | refine ⟨_, And.intro (a := I64 _) ?_ ⟨rfl, rfl⟩, ?_⟩ | refine ⟨_, _, ⟨rfl, rfl⟩, ?_⟩ | refine ⟨_, (fun _ => ⟨rfl, rfl⟩), ?_⟩ | refine And.intro (a := chkPend _ _ _ _ _ _) ?_ ?_ | refine And.intro (a := chkPast _ _ _ _ _ _ _ _) ?_ ?_ | refine ⟨⟨rfl, rfl⟩, ?_⟩ | refine And.intro (And.intro rfl rfl) ?_ | refine ⟨True.intro, ?_⟩ | refine ⟨_, ⟨_, rfl, ?_, rfl, rfl, rfl⟩, ?_⟩ | refine ⟨_, rfl, ?_, rfl, ?_⟩ | refine ⟨_, (fun _ => rfl), rfl, ?_⟩ | refine ⟨(fun _ => rfl), ?_⟩ | refine ⟨rfl, ?_⟩ | refine Opt.a ?_ | fail)
    · simp only [List.length_append, List.length_map, List.length_cons, List.length_nil]
      unfold I64
      omega
    rw [e]
    refine ⟨(), ?_, trivial⟩
    refine wk_sel [some 0, some 1, some 2, some 7, some 8] rfl rfl ⟨?_, ?_, ?_, ?_, ?_, trivial⟩ ?_
    · (repeat' (first | exact True.intro | exact rfl | exact Or.inl rfl | exact Or.inr rfl | refine And.intro ?_ ?_ | fail))
    · (repeat' (first | exact True.intro | exact rfl | exact Or.inl rfl | exact Or.inr rfl | refine And.intro ?_ ?_ | fail))
    · (repeat' (first | exact True.intro | exact rfl | exact Or.inl rfl | exact Or.inr rfl | refine And.intro ?_ ?_ | fail))
    · show Row.row 8 _ = Row.row 8 _
      simp
    · show Row.row 2 _ = Row.row 2 _
      simp [portV]
    · (repeat' (first | exact True.intro | exact rfl | exact Or.inl rfl | exact Or.inr rfl | refine And.intro ?_ ?_ | fail))
  rw [hdd]
  obtain ⟨b, hb⟩ : ∃ b, (srcs f).behind = b := ⟨_, rfl⟩
  have hpd : planDesk ⟨f, c, t⟩ w = (steps w b c).behind := by unfold planDesk; rw [hb]
  simp only [hb] at hpl
  have hpn : planNodes ⟨f, c, t⟩ w = (steps w b c).behind.nodes ++ [sinkN t (steps w b c).behind.cur] := by unfold planNodes; rw [hpd]
  rw [hb]
  repeat' (first | exact True.intro | refine ⟨_, LeL.refl _, ?_⟩ | refine ⟨_, _, _, LeL.refl _, ?_⟩ | (refine fun (b : Bool) hb => ?_; cases b <;> (first | exact absurd hb (by decide) | exact Bool.noConfusion (show true = false from hb) | exact Bool.noConfusion (show false = true from hb) | skip)) | (refine fun (hl : _ ≤ MAXL) => ?_) | refine And.intro (a := I64 _) ?_ ?_ | refine And.intro (a := _ ≤ 140737488355328) ?_ ?_ | refine ⟨_, ⟨rfl, rfl⟩, ?_⟩ | refine ⟨_, And.intro (a := I64 _) ?_ ⟨rfl, rfl⟩, ?_⟩ | refine ⟨_, _, ⟨rfl, rfl⟩, ?_⟩ | refine ⟨_, (fun _ => ⟨rfl, rfl⟩), ?_⟩ | refine And.intro (a := chkPend _ _ _ _ _ _) ?_ ?_ | refine And.intro (a := chkPast _ _ _ _ _ _ _ _) ?_ ?_ | refine ⟨⟨rfl, rfl⟩, ?_⟩ | refine And.intro (And.intro rfl rfl) ?_ | refine ⟨True.intro, ?_⟩ | refine ⟨_, ⟨_, rfl, ?_, rfl, rfl, rfl⟩, ?_⟩ | refine ⟨_, rfl, ?_, rfl, ?_⟩ | refine ⟨_, (fun _ => rfl), rfl, ?_⟩ | refine ⟨(fun _ => rfl), ?_⟩ | refine ⟨rfl, ?_⟩ | refine Opt.a ?_ | fail)
  conv => whnf
  refine loop_live [1, 2, 4, 7, 52, 53] (σ := Nat) (fun i => [(54, .int .i64 i)]) (fun i => [.box [.sl strV f, .sl cmdV c, .str t], .box [.nil], .box [.own 3, .own 4], .row 8 ((steps w b (c.take i)).nodes.map nodeV), .row 2 ((steps w b (c.take i)).cur.map portV)]) (fun i => i ≤ c.length) (fun i => c.length - i) 0 ?_
  conv => whnf
  refine ⟨(by (refine wk_sel [some 0, some 1, some 2, some 3, some 4] rfl rfl ?_ ?_ <;> (repeat' (first | exact True.intro | exact rfl | exact Or.inl rfl | exact Or.inr rfl | refine And.intro ?_ ?_ | fail)))), Nat.zero_le _, fun i hi => ?_⟩
  have hpi := hpl i hi
  obtain ⟨e, heq⟩ : ∃ e, steps w b (c.take i) = e := ⟨_, rfl⟩
  have hst : ∀ h : i < c.length, steps w b (c.take (i + 1)) = e.step w c[i] := fun h => by rw [← heq]; exact steps_take h
  rw [heq] at hpi ⊢
  have hwi := desk_wide hpi (by omega)
  have hpi1 := hpi.len
  have hpi2 := hpi.cur
  repeat' (first | exact True.intro | refine ⟨_, LeL.refl _, ?_⟩ | refine ⟨_, _, _, LeL.refl _, ?_⟩ | (refine fun (b : Bool) hb => ?_; cases b <;> (first | exact absurd hb (by decide) | exact Bool.noConfusion (show true = false from hb) | exact Bool.noConfusion (show false = true from hb) | skip)) | (refine fun (hl : _ ≤ MAXL) => ?_) | refine And.intro (a := I64 _) ?_ ?_ | refine And.intro (a := _ ≤ 140737488355328) ?_ ?_ | refine ⟨_, ⟨rfl, rfl⟩, ?_⟩ | refine ⟨_, And.intro (a := I64 _) ?_ ⟨rfl, rfl⟩, ?_⟩ | refine ⟨_, _, ⟨rfl, rfl⟩, ?_⟩ | refine ⟨_, (fun _ => ⟨rfl, rfl⟩), ?_⟩ | refine And.intro (a := chkPend _ _ _ _ _ _) ?_ ?_ | refine And.intro (a := chkPast _ _ _ _ _ _ _ _) ?_ ?_ | refine ⟨⟨rfl, rfl⟩, ?_⟩ | refine And.intro (And.intro rfl rfl) ?_ | refine ⟨True.intro, ?_⟩ | refine ⟨_, ⟨_, rfl, ?_, rfl, rfl, rfl⟩, ?_⟩ | refine ⟨_, rfl, ?_, rfl, ?_⟩ | refine ⟨_, (fun _ => rfl), rfl, ?_⟩ | refine ⟨(fun _ => rfl), ?_⟩ | refine ⟨rfl, ?_⟩ | refine Opt.a ?_ | fail)
  rotate_left
  · grind
  · have hi2 : i < c.length := by grind
    have hst := hst hi2
    have hci : checkCmd c[i] = 0 := firstBad_at hfb c[i] (List.getElem_mem hi2)
    have hjf : (joinFor c[i]).1 = howFor c[i] := by unfold joinFor; rw [if_pos hci]
    refine join_live [1, 2, 4, 7, 11, 52, 53, 54] (σ := Unit) (fun _ => []) (fun _ => [.box [.sl strV f, .sl cmdV c, .str t], .box [.nil], .box [.own 3, .own 4], .row 8 ((e.wide w).nodes.map nodeV), .row 2 ((e.wide w).cur.map portV), .box [.int .i64 c[i].kind, .str c[i].word, .int .i64 c[i].n]]) (fun _ => True) ?_
    conv => whnf
    refine ⟨?_, fun _ _ => ?_⟩
    · repeat' (first | exact True.intro | refine ⟨_, LeL.refl _, ?_⟩ | refine ⟨_, _, _, LeL.refl _, ?_⟩ | (refine fun (b : Bool) hb => ?_; cases b <;> (first | exact absurd hb (by decide) | exact Bool.noConfusion (show true = false from hb) | exact Bool.noConfusion (show false = true from hb) | skip)) | (refine fun (hl : _ ≤ MAXL) => ?_) | refine And.intro (a := I64 _) ?_ ?_ | refine And.intro (a := _ ≤ 140737488355328) ?_ ?_ | refine ⟨_, ⟨rfl, rfl⟩, ?_⟩ | refine ⟨_, And.intro (a := I64 _) ?_ ⟨rfl, rfl⟩, ?_⟩ | refine ⟨_, _, ⟨rfl, rfl⟩, ?_⟩ | refine ⟨_, (fun _ => ⟨rfl, rfl⟩), ?_⟩ | refine And.intro (a := chkPend _ _ _ _ _ _) ?_ ?_ | refine And.intro (a := chkPast _ _ _ _ _ _ _ _) ?_ ?_ | refine ⟨⟨rfl, rfl⟩, ?_⟩ | refine And.intro (And.intro rfl rfl) ?_ | refine ⟨True.intro, ?_⟩ | refine ⟨_, ⟨_, rfl, ?_, rfl, rfl, rfl⟩, ?_⟩ | refine ⟨_, rfl, ?_, rfl, ?_⟩ | refine ⟨_, (fun _ => rfl), rfl, ?_⟩ | refine ⟨(fun _ => rfl), ?_⟩ | refine ⟨rfl, ?_⟩ | refine Opt.a ?_ | fail)
      rotate_left
      · have e1 : e.wide w = e := by unfold Desk.wide; rw [if_pos (by grind)]
        rw [e1]
        exact ⟨(), (by (refine wk_sel [some 0, some 1, some 2, some 3, some 4, some 5] rfl rfl ?_ ?_ <;> (repeat' (first | exact True.intro | exact rfl | exact Or.inl rfl | exact Or.inr rfl | refine And.intro ?_ ?_ | fail)))), trivial⟩
      · have e1 : e.wide w = e := by unfold Desk.wide; rw [if_pos (by simp only [List.length_map] at *; grind)]
        rw [e1]
        exact ⟨(), (by (refine wk_sel [some 0, some 1, some 2, some 3, some 4, some 5] rfl rfl ?_ ?_ <;> (repeat' (first | exact True.intro | exact rfl | exact Or.inl rfl | exact Or.inr rfl | refine And.intro ?_ ?_ | fail)))), trivial⟩
      have e1 : e.wide w = ⟨e.nodes ++ [splitN w e.cur], ports e.nodes.length w.toNat⟩ := by unfold Desk.wide; rw [if_neg (by simp only [List.length_map] at *; grind)]
      rw [e1]
      obtain ⟨W, rfl⟩ : ∃ W : Nat, w = W := ⟨w.toNat, by omega⟩
      refine ⟨_, ⟨Gp.Node, nodeV, [splitN W e.cur], LeL.refl _, rfl, rfl⟩, ?_⟩
      refine ⟨_, _, ⟨fun _ => rfl, ?_, rfl, rfl⟩, ?_⟩
      · simp only [List.length_map, List.length_cons, List.length_nil, elsOf]
        omega
      repeat' (first | exact True.intro | refine ⟨_, LeL.refl _, ?_⟩ | refine ⟨_, _, _, LeL.refl _, ?_⟩ | (refine fun (b : Bool) hb => ?_; cases b <;> (first | exact absurd hb (by decide) | exact Bool.noConfusion (show true = false from hb) | exact Bool.noConfusion (show false = true from hb) | skip)) | (refine fun (hl : _ ≤ MAXL) => ?_) | refine And.intro (a := I64 _) ?_ ?_ | refine And.intro (a := _ ≤ 140737488355328) ?_ ?_ | refine ⟨_, ⟨rfl, rfl⟩, ?_⟩ | refine ⟨_, And.intro (a := I64 _) ?_ ⟨rfl, rfl⟩, ?_⟩ | refine ⟨_, _, ⟨rfl, rfl⟩, ?_⟩ | refine ⟨_, (fun _ => ⟨rfl, rfl⟩), ?_⟩ | refine And.intro (a := chkPend _ _ _ _ _ _) ?_ ?_ | refine And.intro (a := chkPast _ _ _ _ _ _ _ _) ?_ ?_ | refine ⟨⟨rfl, rfl⟩, ?_⟩ | refine And.intro (And.intro rfl rfl) ?_ | refine ⟨True.intro, ?_⟩ | refine ⟨_, ⟨_, rfl, ?_, rfl, rfl, rfl⟩, ?_⟩ | refine ⟨_, rfl, ?_, rfl, ?_⟩ | refine ⟨_, (fun _ => rfl), rfl, ?_⟩ | refine ⟨(fun _ => rfl), ?_⟩ | refine ⟨rfl, ?_⟩ | refine Opt.a ?_ | fail)
      · simp only [List.length_append, List.length_map, List.length_cons, List.length_nil]
        unfold I64
        omega
      have hp0 : (((e.nodes.map nodeV ++ [splitN W e.cur].map nodeV).length : Nat) : Int) - 1 = e.nodes.length := by simp
      have hn0 : e.nodes.map nodeV ++ [splitN W e.cur].map nodeV = (e.nodes ++ [splitN W e.cur]).map nodeV := by simp
      rw [hp0, hn0]
      conv => whnf
      refine loop_live [0, 4, 27] (σ := Nat) (fun k => [(28, .int .i64 k)]) (fun k => [.box [.sl strV f, .sl cmdV c, .str t], .box [.nil], .box [.own 8, .own 10], .dead, .dead, .box [.int .i64 c[i].kind, .str c[i].word, .int .i64 c[i].n], .dead, .dead, .row 8 ((e.nodes ++ [splitN W e.cur]).map nodeV), .box [.int .i64 e.nodes.length, .int .i64 0], .row 2 ((ports e.nodes.length k).map portV)]) (fun k => k ≤ W) (fun k => W - k) 0 ?_
      conv => whnf
      refine ⟨?_, Nat.zero_le _, fun k hk => ?_⟩
      · exact (by (refine wk_sel [some 0, some 1, some 2, some 3, some 4, some 5, some 6, some 7, some 8, some 9, none] rfl rfl ?_ ?_ <;> (repeat' (first | exact True.intro | exact rfl | exact Or.inl rfl | exact Or.inr rfl | refine And.intro ?_ ?_ | fail))))
      have hpk := ports_succ e.nodes.length k
      have hpl3 := ports_len e.nodes.length k
      repeat' (first | exact True.intro | refine ⟨_, LeL.refl _, ?_⟩ | refine ⟨_, _, _, LeL.refl _, ?_⟩ | (refine fun (b : Bool) hb => ?_; cases b <;> (first | exact absurd hb (by decide) | exact Bool.noConfusion (show true = false from hb) | exact Bool.noConfusion (show false = true from hb) | skip)) | (refine fun (hl : _ ≤ MAXL) => ?_) | refine And.intro (a := I64 _) ?_ ?_ | refine And.intro (a := _ ≤ 140737488355328) ?_ ?_ | refine ⟨_, ⟨rfl, rfl⟩, ?_⟩ | refine ⟨_, And.intro (a := I64 _) ?_ ⟨rfl, rfl⟩, ?_⟩ | refine ⟨_, _, ⟨rfl, rfl⟩, ?_⟩ | refine ⟨_, (fun _ => ⟨rfl, rfl⟩), ?_⟩ | refine And.intro (a := chkPend _ _ _ _ _ _) ?_ ?_ | refine And.intro (a := chkPast _ _ _ _ _ _ _ _) ?_ ?_ | refine ⟨⟨rfl, rfl⟩, ?_⟩ | refine And.intro (And.intro rfl rfl) ?_ | refine ⟨True.intro, ?_⟩ | refine ⟨_, ⟨_, rfl, ?_, rfl, rfl, rfl⟩, ?_⟩ | refine ⟨_, rfl, ?_, rfl, ?_⟩ | refine ⟨_, (fun _ => rfl), rfl, ?_⟩ | refine ⟨(fun _ => rfl), ?_⟩ | refine ⟨rfl, ?_⟩ | refine Opt.a ?_ | fail)
      · have hkW : k = W := by grind
        subst hkW
        refine ⟨(), ?_, trivial⟩
        exact (by (refine wk_sel [some 0, some 1, some 2, some 8, some 10, some 5] rfl rfl ?_ ?_ <;> (repeat' (first | exact True.intro | exact rfl | exact Or.inl rfl | exact Or.inr rfl | refine And.intro ?_ ?_ | fail))))
      refine ⟨_, ⟨Gp.Port, portV, [⟨e.nodes.length, k⟩], LeL.refl _, rfl, rfl⟩, ?_⟩
      refine ⟨_, _, ⟨fun _ => rfl, ?_, rfl, rfl⟩, ?_⟩
      · simp only [List.length_map, List.length_cons, List.length_nil, elsOf]
        omega
      repeat' (first | exact True.intro | refine ⟨_, LeL.refl _, ?_⟩ | refine ⟨_, _, _, LeL.refl _, ?_⟩ | (refine fun (b : Bool) hb => ?_; cases b <;> (first | exact absurd hb (by decide) | exact Bool.noConfusion (show true = false from hb) | exact Bool.noConfusion (show false = true from hb) | skip)) | (refine fun (hl : _ ≤ MAXL) => ?_) | refine And.intro (a := I64 _) ?_ ?_ | refine And.intro (a := _ ≤ 140737488355328) ?_ ?_ | refine ⟨_, ⟨rfl, rfl⟩, ?_⟩ | refine ⟨_, And.intro (a := I64 _) ?_ ⟨rfl, rfl⟩, ?_⟩ | refine ⟨_, _, ⟨rfl, rfl⟩, ?_⟩ | refine ⟨_, (fun _ => ⟨rfl, rfl⟩), ?_⟩ | refine And.intro (a := chkPend _ _ _ _ _ _) ?_ ?_ | refine And.intro (a := chkPast _ _ _ _ _ _ _ _) ?_ ?_ | refine ⟨⟨rfl, rfl⟩, ?_⟩ | refine And.intro (And.intro rfl rfl) ?_ | refine ⟨True.intro, ?_⟩ | refine ⟨_, ⟨_, rfl, ?_, rfl, rfl, rfl⟩, ?_⟩ | refine ⟨_, rfl, ?_, rfl, ?_⟩ | refine ⟨_, (fun _ => rfl), rfl, ?_⟩ | refine ⟨(fun _ => rfl), ?_⟩ | refine ⟨rfl, ?_⟩ | refine Opt.a ?_ | fail)
      · (first | omega | (unfold I64; omega) | (simp only [List.length_append, List.length_map, List.length_cons, List.length_nil, Nat.mul_one, Int.ofNat_eq_natCast] at *; omega) | (dsimp only at *; omega) | (unfold I64; dsimp only at *; omega) | (unfold I64; grind) | grind)
      · refine ⟨k + 1, ?_, by grind, by grind⟩
        rw [hpk]
        refine wk_sel [some 0, some 1, some 2, some 3, some 4, some 5, some 6, some 7, some 8, some 9, some 11] rfl rfl ⟨?_, ?_, ?_, ?_, ?_, ?_, ?_, ?_, ?_, ?_, ?_, trivial⟩ ?_
        all_goals try ((repeat' (first | exact True.intro | exact rfl | exact Or.inl rfl | exact Or.inr rfl | refine And.intro ?_ ?_ | fail)); done)
        show Row.row 2 _ = Row.row 2 _
        rw [List.map_append]
    repeat' (first | exact True.intro | refine ⟨_, LeL.refl _, ?_⟩ | refine ⟨_, _, _, LeL.refl _, ?_⟩ | (refine fun (b : Bool) hb => ?_; cases b <;> (first | exact absurd hb (by decide) | exact Bool.noConfusion (show true = false from hb) | exact Bool.noConfusion (show false = true from hb) | skip)) | (refine fun (hl : _ ≤ MAXL) => ?_) | refine And.intro (a := I64 _) ?_ ?_ | refine And.intro (a := _ ≤ 140737488355328) ?_ ?_ | refine ⟨_, ⟨rfl, rfl⟩, ?_⟩ | refine ⟨_, And.intro (a := I64 _) ?_ ⟨rfl, rfl⟩, ?_⟩ | refine ⟨_, _, ⟨rfl, rfl⟩, ?_⟩ | refine ⟨_, (fun _ => ⟨rfl, rfl⟩), ?_⟩ | refine And.intro (a := chkPend _ _ _ _ _ _) ?_ ?_ | refine And.intro (a := chkPast _ _ _ _ _ _ _ _) ?_ ?_ | refine ⟨⟨rfl, rfl⟩, ?_⟩ | refine And.intro (And.intro rfl rfl) ?_ | refine ⟨True.intro, ?_⟩ | refine ⟨_, ⟨_, rfl, ?_, rfl, rfl, rfl⟩, ?_⟩ | refine ⟨_, rfl, ?_, rfl, ?_⟩ | refine ⟨_, (fun _ => rfl), rfl, ?_⟩ | refine ⟨(fun _ => rfl), ?_⟩ | refine ⟨rfl, ?_⟩ | refine Opt.a ?_ | fail)
    conv => whnf
    obtain ⟨b', hb'⟩ : ∃ b', e.wide w = b' := ⟨_, rfl⟩
    rw [hb'] at hwi
    rw [hb']
    refine loop_live [0, 3, 10, 11] (σ := Nat × Desk) (fun s => [(4, .own 8), (12, .int .i64 s.1)]) (fun s => [.box [.sl strV f, .sl cmdV c, .str t], .box [.nil], .box [.own 7, .own 4], .dead, .row 2 (b'.cur.map portV), .box [.int .i64 c[i].kind, .str c[i].word, .int .i64 c[i].n], .box [.int .i64 c[i].kind, .str c[i].word, .int .i64 c[i].n], .row 8 (s.2.nodes.map nodeV), .row 2 (s.2.cur.map portV)]) (fun s => s.1 ≤ b'.cur.length ∧ s.2 = ⟨b'.nodes ++ ((b'.cur.take s.1).map fun p => workN c[i] [p]), outs b'.nodes.length s.1⟩) (fun s => b'.cur.length - s.1) (0, ⟨b'.nodes, []⟩) ?_
    conv => whnf
    refine ⟨?_, ⟨Nat.zero_le _, by simp [outs]⟩, fun s hs => ?_⟩
    · exact (by (refine wk_sel [some 0, some 1, some 2, some 3, some 4, some 5, some 6, some 3, none] rfl rfl ?_ ?_ <;> (repeat' (first | exact True.intro | exact rfl | exact Or.inl rfl | exact Or.inr rfl | refine And.intro ?_ ?_ | fail))))
    obtain ⟨j, q⟩ := s
    obtain ⟨hj, hq⟩ := hs
    dsimp only at hj hq
    have hqn : q.nodes.length = b'.nodes.length + j := by
      rw [hq]
      simp
      omega
    have hqc : q.cur.length = j := by
      rw [hq]
      simp [outs_len]
    repeat' (first | exact True.intro | refine ⟨_, LeL.refl _, ?_⟩ | refine ⟨_, _, _, LeL.refl _, ?_⟩ | (refine fun (b : Bool) hb => ?_; cases b <;> (first | exact absurd hb (by decide) | exact Bool.noConfusion (show true = false from hb) | exact Bool.noConfusion (show false = true from hb) | skip)) | (refine fun (hl : _ ≤ MAXL) => ?_) | refine And.intro (a := I64 _) ?_ ?_ | refine And.intro (a := _ ≤ 140737488355328) ?_ ?_ | refine ⟨_, ⟨rfl, rfl⟩, ?_⟩ | refine ⟨_, And.intro (a := I64 _) ?_ ⟨rfl, rfl⟩, ?_⟩ | refine ⟨_, _, ⟨rfl, rfl⟩, ?_⟩ | refine ⟨_, (fun _ => ⟨rfl, rfl⟩), ?_⟩ | refine And.intro (a := chkPend _ _ _ _ _ _) ?_ ?_ | refine And.intro (a := chkPast _ _ _ _ _ _ _ _) ?_ ?_ | refine ⟨⟨rfl, rfl⟩, ?_⟩ | refine And.intro (And.intro rfl rfl) ?_ | refine ⟨True.intro, ?_⟩ | refine ⟨_, ⟨_, rfl, ?_, rfl, rfl, rfl⟩, ?_⟩ | refine ⟨_, rfl, ?_, rfl, ?_⟩ | refine ⟨_, (fun _ => rfl), rfl, ?_⟩ | refine ⟨(fun _ => rfl), ?_⟩ | refine ⟨rfl, ?_⟩ | refine Opt.a ?_ | fail)
    rotate_left
    · have hj2 : j < b'.cur.length := by simp only [List.length_map] at *; grind
      refine ⟨j, rfl, by simpa using hj2, ?_⟩
      have hg : (List.map portV b'.cur)[j]? = some (portV b'.cur[j]) := by rw [List.getElem?_map, List.getElem?_eq_getElem hj2]; rfl
      conv => whnf
      refine ⟨portV b'.cur[j], hg, ?_⟩
      repeat' (first | exact True.intro | refine ⟨_, LeL.refl _, ?_⟩ | refine ⟨_, _, _, LeL.refl _, ?_⟩ | (refine fun (b : Bool) hb => ?_; cases b <;> (first | exact absurd hb (by decide) | exact Bool.noConfusion (show true = false from hb) | exact Bool.noConfusion (show false = true from hb) | skip)) | (refine fun (hl : _ ≤ MAXL) => ?_) | refine And.intro (a := I64 _) ?_ ?_ | refine And.intro (a := _ ≤ 140737488355328) ?_ ?_ | refine ⟨_, ⟨rfl, rfl⟩, ?_⟩ | refine ⟨_, And.intro (a := I64 _) ?_ ⟨rfl, rfl⟩, ?_⟩ | refine ⟨_, _, ⟨rfl, rfl⟩, ?_⟩ | refine ⟨_, (fun _ => ⟨rfl, rfl⟩), ?_⟩ | refine And.intro (a := chkPend _ _ _ _ _ _) ?_ ?_ | refine And.intro (a := chkPast _ _ _ _ _ _ _ _) ?_ ?_ | refine ⟨⟨rfl, rfl⟩, ?_⟩ | refine And.intro (And.intro rfl rfl) ?_ | refine ⟨True.intro, ?_⟩ | refine ⟨_, ⟨_, rfl, ?_, rfl, rfl, rfl⟩, ?_⟩ | refine ⟨_, rfl, ?_, rfl, ?_⟩ | refine ⟨_, (fun _ => rfl), rfl, ?_⟩ | refine ⟨(fun _ => rfl), ?_⟩ | refine ⟨rfl, ?_⟩ | refine Opt.a ?_ | fail)
      refine ⟨Gp.Port, portV, [b'.cur[j]], LeL.refl _, ?_⟩
      repeat' (first | exact True.intro | refine ⟨_, LeL.refl _, ?_⟩ | refine ⟨_, _, _, LeL.refl _, ?_⟩ | (refine fun (b : Bool) hb => ?_; cases b <;> (first | exact absurd hb (by decide) | exact Bool.noConfusion (show true = false from hb) | exact Bool.noConfusion (show false = true from hb) | skip)) | (refine fun (hl : _ ≤ MAXL) => ?_) | refine And.intro (a := I64 _) ?_ ?_ | refine And.intro (a := _ ≤ 140737488355328) ?_ ?_ | refine ⟨_, ⟨rfl, rfl⟩, ?_⟩ | refine ⟨_, And.intro (a := I64 _) ?_ ⟨rfl, rfl⟩, ?_⟩ | refine ⟨_, _, ⟨rfl, rfl⟩, ?_⟩ | refine ⟨_, (fun _ => ⟨rfl, rfl⟩), ?_⟩ | refine And.intro (a := chkPend _ _ _ _ _ _) ?_ ?_ | refine And.intro (a := chkPast _ _ _ _ _ _ _ _) ?_ ?_ | refine ⟨⟨rfl, rfl⟩, ?_⟩ | refine And.intro (And.intro rfl rfl) ?_ | refine ⟨True.intro, ?_⟩ | refine ⟨_, ⟨_, rfl, ?_, rfl, rfl, rfl⟩, ?_⟩ | refine ⟨_, rfl, ?_, rfl, ?_⟩ | refine ⟨_, (fun _ => rfl), rfl, ?_⟩ | refine ⟨(fun _ => rfl), ?_⟩ | refine ⟨rfl, ?_⟩ | refine Opt.a ?_ | fail)
      refine ⟨_, ⟨Gp.Node, nodeV, [workN c[i] [b'.cur[j]]], LeL.refl _, rfl, rfl⟩, ?_⟩
      refine ⟨_, _, ⟨fun _ => rfl, ?_, rfl, rfl⟩, ?_⟩
      · simp only [List.length_map, List.length_cons, List.length_nil, elsOf]
        omega
      repeat' (first | exact True.intro | refine ⟨_, LeL.refl _, ?_⟩ | refine ⟨_, _, _, LeL.refl _, ?_⟩ | (refine fun (b : Bool) hb => ?_; cases b <;> (first | exact absurd hb (by decide) | exact Bool.noConfusion (show true = false from hb) | exact Bool.noConfusion (show false = true from hb) | skip)) | (refine fun (hl : _ ≤ MAXL) => ?_) | refine And.intro (a := I64 _) ?_ ?_ | refine And.intro (a := _ ≤ 140737488355328) ?_ ?_ | refine ⟨_, ⟨rfl, rfl⟩, ?_⟩ | refine ⟨_, And.intro (a := I64 _) ?_ ⟨rfl, rfl⟩, ?_⟩ | refine ⟨_, _, ⟨rfl, rfl⟩, ?_⟩ | refine ⟨_, (fun _ => ⟨rfl, rfl⟩), ?_⟩ | refine And.intro (a := chkPend _ _ _ _ _ _) ?_ ?_ | refine And.intro (a := chkPast _ _ _ _ _ _ _ _) ?_ ?_ | refine ⟨⟨rfl, rfl⟩, ?_⟩ | refine And.intro (And.intro rfl rfl) ?_ | refine ⟨True.intro, ?_⟩ | refine ⟨_, ⟨_, rfl, ?_, rfl, rfl, rfl⟩, ?_⟩ | refine ⟨_, rfl, ?_, rfl, ?_⟩ | refine ⟨_, (fun _ => rfl), rfl, ?_⟩ | refine ⟨(fun _ => rfl), ?_⟩ | refine ⟨rfl, ?_⟩ | refine Opt.a ?_ | fail)
      all_goals try ((first | omega | (unfold I64; omega) | (simp only [List.length_append, List.length_map, List.length_cons, List.length_nil, Nat.mul_one, Int.ofNat_eq_natCast] at *; omega) | (dsimp only at *; omega) | (unfold I64; dsimp only at *; omega) | (unfold I64; grind) | grind); done)
      refine ⟨(j + 1, ⟨q.nodes ++ [workN c[i] [b'.cur[j]]], q.cur ++ [⟨((q.nodes.map nodeV ++ [workN c[i] [b'.cur[j]]].map nodeV).length : Int) - 1, 0⟩]⟩), ?_, ⟨?_, ?_⟩, ?_⟩
      rotate_left
      · exact hj2
      · rw [hq]
        have ep : (((b'.nodes ++ List.map (fun p => workN c[i] [p]) (List.take j b'.cur)).map nodeV ++ [workN c[i] [b'.cur[j]]].map nodeV).length : Int) - 1 = (b'.nodes.length : Int) + (j : Int) := by
          simp only [List.length_append, List.length_map, List.length_take, List.length_cons, List.length_nil]
          omega
        dsimp only
        rw [ep]
        simp only [outs_succ, List.take_succ_eq_append_getElem hj2, List.map_append, List.append_assoc, List.map_cons, List.map_nil]
      · show b'.cur.length - (j + 1) < b'.cur.length - j
        omega
      have em1 : (q.nodes ++ [workN c[i] [b'.cur[j]]]).map nodeV = q.nodes.map nodeV ++ [workN c[i] [b'.cur[j]]].map nodeV := List.map_append
      have em2 : ∀ x : Port, (q.cur ++ [x]).map portV = q.cur.map portV ++ [x].map portV := fun x => List.map_append
      dsimp only
      rw [em1, em2]
      exact (by (refine wk_sel [some 0, some 1, some 2, some 3, some 4, some 5, some 6, some 13, some 15] rfl rfl ?_ ?_ <;> (repeat' (first | exact True.intro | exact rfl | exact Or.inl rfl | exact Or.inr rfl | refine And.intro ?_ ?_ | fail))))
    have hjl : j = b'.cur.length := by simp only [List.length_map] at *; grind
    have hwk : b'.work c[i] = q := by rw [hq, hjl, List.take_length]; rfl
    have hst := hst
    have hek : each ⟨c[i].kind, c[i].word, c[i].n⟩ = each c[i] := rfl
    repeat' (first | exact True.intro | refine ⟨_, LeL.refl _, ?_⟩ | refine ⟨_, _, _, LeL.refl _, ?_⟩ | (refine fun (b : Bool) hb => ?_; cases b <;> (first | exact absurd hb (by decide) | exact Bool.noConfusion (show true = false from hb) | exact Bool.noConfusion (show false = true from hb) | skip)) | (refine fun (hl : _ ≤ MAXL) => ?_) | refine And.intro (a := I64 _) ?_ ?_ | refine And.intro (a := _ ≤ 140737488355328) ?_ ?_ | refine ⟨_, ⟨rfl, rfl⟩, ?_⟩ | refine ⟨_, And.intro (a := I64 _) ?_ ⟨rfl, rfl⟩, ?_⟩ | refine ⟨_, _, ⟨rfl, rfl⟩, ?_⟩ | refine ⟨_, (fun _ => ⟨rfl, rfl⟩), ?_⟩ | refine And.intro (a := chkPend _ _ _ _ _ _) ?_ ?_ | refine And.intro (a := chkPast _ _ _ _ _ _ _ _) ?_ ?_ | refine ⟨⟨rfl, rfl⟩, ?_⟩ | refine And.intro (And.intro rfl rfl) ?_ | refine ⟨True.intro, ?_⟩ | refine ⟨_, ⟨_, rfl, ?_, rfl, rfl, rfl⟩, ?_⟩ | refine ⟨_, rfl, ?_, rfl, ?_⟩ | refine ⟨_, (fun _ => rfl), rfl, ?_⟩ | refine ⟨(fun _ => rfl), ?_⟩ | refine ⟨rfl, ?_⟩ | refine Opt.a ?_ | fail)
    refine ⟨_, _, _, rfl, ?_⟩
    repeat' (first | exact True.intro | refine ⟨_, LeL.refl _, ?_⟩ | refine ⟨_, _, _, LeL.refl _, ?_⟩ | (refine fun (b : Bool) hb => ?_; cases b <;> (first | exact absurd hb (by decide) | exact Bool.noConfusion (show true = false from hb) | exact Bool.noConfusion (show false = true from hb) | skip)) | (refine fun (hl : _ ≤ MAXL) => ?_) | refine And.intro (a := I64 _) ?_ ?_ | refine And.intro (a := _ ≤ 140737488355328) ?_ ?_ | refine ⟨_, ⟨rfl, rfl⟩, ?_⟩ | refine ⟨_, And.intro (a := I64 _) ?_ ⟨rfl, rfl⟩, ?_⟩ | refine ⟨_, _, ⟨rfl, rfl⟩, ?_⟩ | refine ⟨_, (fun _ => ⟨rfl, rfl⟩), ?_⟩ | refine And.intro (a := chkPend _ _ _ _ _ _) ?_ ?_ | refine And.intro (a := chkPast _ _ _ _ _ _ _ _) ?_ ?_ | refine ⟨⟨rfl, rfl⟩, ?_⟩ | refine And.intro (And.intro rfl rfl) ?_ | refine ⟨True.intro, ?_⟩ | refine ⟨_, ⟨_, rfl, ?_, rfl, rfl, rfl⟩, ?_⟩ | refine ⟨_, rfl, ?_, rfl, ?_⟩ | refine ⟨_, (fun _ => rfl), rfl, ?_⟩ | refine ⟨(fun _ => rfl), ?_⟩ | refine ⟨rfl, ?_⟩ | refine Opt.a ?_ | fail)
    all_goals try ((first | omega | (unfold I64; omega) | (simp only [List.length_append, List.length_map, List.length_cons, List.length_nil, Nat.mul_one, Int.ofNat_eq_natCast] at *; omega) | (dsimp only at *; omega) | (unfold I64; dsimp only at *; omega) | (unfold I64; grind) | grind); done)
    rotate_left
    · refine ⟨i + 1, ?_, hi2, by show c.length - (i + 1) < c.length - i; omega⟩
      have e2 : e.step w c[i] = q := by unfold Desk.step; rw [hb', hwk, if_pos ?_]; first | exact .inl (by assumption) | exact .inr (of_decide_eq_true (by assumption))
      rw [hst, e2]
      exact (by (refine wk_sel [some 0, some 1, some 2, some 7, some 8] rfl rfl ?_ ?_ <;> (repeat' (first | exact True.intro | exact rfl | exact Or.inl rfl | exact Or.inr rfl | refine And.intro ?_ ?_ | fail))))
    · refine ⟨i + 1, ?_, hi2, by show c.length - (i + 1) < c.length - i; omega⟩
      have e2 : e.step w c[i] = q := by unfold Desk.step; rw [hb', hwk, if_pos ?_]; first | exact .inl (by assumption) | exact .inr (of_decide_eq_true (by assumption))
      rw [hst, e2]
      exact (by (refine wk_sel [some 0, some 1, some 2, some 7, some 8] rfl rfl ?_ ?_ <;> (repeat' (first | exact True.intro | exact rfl | exact Or.inl rfl | exact Or.inr rfl | refine And.intro ?_ ?_ | fail))))
    refine ⟨_, _, _, rfl, ?_⟩
    repeat' (first | exact True.intro | refine ⟨_, LeL.refl _, ?_⟩ | refine ⟨_, _, _, LeL.refl _, ?_⟩ | (refine fun (b : Bool) hb => ?_; cases b <;> (first | exact absurd hb (by decide) | exact Bool.noConfusion (show true = false from hb) | exact Bool.noConfusion (show false = true from hb) | skip)) | (refine fun (hl : _ ≤ MAXL) => ?_) | refine And.intro (a := I64 _) ?_ ?_ | refine And.intro (a := _ ≤ 140737488355328) ?_ ?_ | refine ⟨_, ⟨rfl, rfl⟩, ?_⟩ | refine ⟨_, And.intro (a := I64 _) ?_ ⟨rfl, rfl⟩, ?_⟩ | refine ⟨_, _, ⟨rfl, rfl⟩, ?_⟩ | refine ⟨_, (fun _ => ⟨rfl, rfl⟩), ?_⟩ | refine And.intro (a := chkPend _ _ _ _ _ _) ?_ ?_ | refine And.intro (a := chkPast _ _ _ _ _ _ _ _) ?_ ?_ | refine ⟨⟨rfl, rfl⟩, ?_⟩ | refine And.intro (And.intro rfl rfl) ?_ | refine ⟨True.intro, ?_⟩ | refine ⟨_, ⟨_, rfl, ?_, rfl, rfl, rfl⟩, ?_⟩ | refine ⟨_, rfl, ?_, rfl, ?_⟩ | refine ⟨_, (fun _ => rfl), rfl, ?_⟩ | refine ⟨(fun _ => rfl), ?_⟩ | refine ⟨rfl, ?_⟩ | refine Opt.a ?_ | fail)
    · refine ⟨_, ⟨Gp.Node, nodeV, [joinN (joinFor c[i]).1 zCmd q.cur], LeL.refl _, rfl, rfl⟩, ?_⟩
      refine ⟨_, _, ⟨fun _ => rfl, ?_, rfl, rfl⟩, ?_⟩
      · simp only [List.length_map, List.length_cons, List.length_nil, elsOf]
        omega
      repeat' (first | exact True.intro | refine ⟨_, LeL.refl _, ?_⟩ | refine ⟨_, _, _, LeL.refl _, ?_⟩ | (refine fun (b : Bool) hb => ?_; cases b <;> (first | exact absurd hb (by decide) | exact Bool.noConfusion (show true = false from hb) | exact Bool.noConfusion (show false = true from hb) | skip)) | (refine fun (hl : _ ≤ MAXL) => ?_) | refine And.intro (a := I64 _) ?_ ?_ | refine And.intro (a := _ ≤ 140737488355328) ?_ ?_ | refine ⟨_, ⟨rfl, rfl⟩, ?_⟩ | refine ⟨_, And.intro (a := I64 _) ?_ ⟨rfl, rfl⟩, ?_⟩ | refine ⟨_, _, ⟨rfl, rfl⟩, ?_⟩ | refine ⟨_, (fun _ => ⟨rfl, rfl⟩), ?_⟩ | refine And.intro (a := chkPend _ _ _ _ _ _) ?_ ?_ | refine And.intro (a := chkPast _ _ _ _ _ _ _ _) ?_ ?_ | refine ⟨⟨rfl, rfl⟩, ?_⟩ | refine And.intro (And.intro rfl rfl) ?_ | refine ⟨True.intro, ?_⟩ | refine ⟨_, ⟨_, rfl, ?_, rfl, rfl, rfl⟩, ?_⟩ | refine ⟨_, rfl, ?_, rfl, ?_⟩ | refine ⟨_, (fun _ => rfl), rfl, ?_⟩ | refine ⟨(fun _ => rfl), ?_⟩ | refine ⟨rfl, ?_⟩ | refine Opt.a ?_ | fail)
      all_goals try ((first | omega | (unfold I64; omega) | (simp only [List.length_append, List.length_map, List.length_cons, List.length_nil, Nat.mul_one, Int.ofNat_eq_natCast] at *; omega) | (dsimp only at *; omega) | (unfold I64; dsimp only at *; omega) | (unfold I64; grind) | grind); done)
      have hne : ¬ (each c[i] = true ∨ w = 1) := by
        rintro (h | h)
        · exact absurd ((show each c[i] = false by assumption).symm.trans h) (by decide)
        · exact of_decide_eq_false (by assumption) h
      have h4 : ¬ howFor c[i] = 4 := by
        rw [← hjf]
        exact of_decide_eq_false (p := (joinFor c[i]).1 = 4) (by assumption)
      have e2 : e.step w c[i] = ⟨q.nodes ++ [joinN (joinFor c[i]).1 zCmd q.cur], [⟨((q.nodes.map nodeV ++ [joinN (joinFor c[i]).1 zCmd q.cur].map nodeV).length : Int) - 1, 0⟩]⟩ := by
        unfold Desk.step Desk.fin
        rw [hb', hwk, if_neg hne, if_neg h4, hjf]
        simp
      refine ⟨i + 1, ?_, hi2, by show c.length - (i + 1) < c.length - i; omega⟩
      rw [hst, e2]
      have em1 : (q.nodes ++ [joinN (joinFor c[i]).1 zCmd q.cur]).map nodeV = q.nodes.map nodeV ++ [joinN (joinFor c[i]).1 zCmd q.cur].map nodeV := List.map_append
      dsimp only
      rw [em1]
      exact (by (refine wk_sel [some 0, some 1, some 2, some 12, some 13] rfl rfl ?_ ?_ <;> (repeat' (first | exact True.intro | exact rfl | exact Or.inl rfl | exact Or.inr rfl | refine And.intro ?_ ?_ | fail))))
    · refine ⟨_, ⟨Gp.Node, nodeV, [joinN (joinFor c[i]).1 c[i] q.cur], LeL.refl _, rfl, rfl⟩, ?_⟩
      refine ⟨_, _, ⟨fun _ => rfl, ?_, rfl, rfl⟩, ?_⟩
      · simp only [List.length_map, List.length_cons, List.length_nil, elsOf]
        omega
      repeat' (first | exact True.intro | refine ⟨_, LeL.refl _, ?_⟩ | refine ⟨_, _, _, LeL.refl _, ?_⟩ | (refine fun (b : Bool) hb => ?_; cases b <;> (first | exact absurd hb (by decide) | exact Bool.noConfusion (show true = false from hb) | exact Bool.noConfusion (show false = true from hb) | skip)) | (refine fun (hl : _ ≤ MAXL) => ?_) | refine And.intro (a := I64 _) ?_ ?_ | refine And.intro (a := _ ≤ 140737488355328) ?_ ?_ | refine ⟨_, ⟨rfl, rfl⟩, ?_⟩ | refine ⟨_, And.intro (a := I64 _) ?_ ⟨rfl, rfl⟩, ?_⟩ | refine ⟨_, _, ⟨rfl, rfl⟩, ?_⟩ | refine ⟨_, (fun _ => ⟨rfl, rfl⟩), ?_⟩ | refine And.intro (a := chkPend _ _ _ _ _ _) ?_ ?_ | refine And.intro (a := chkPast _ _ _ _ _ _ _ _) ?_ ?_ | refine ⟨⟨rfl, rfl⟩, ?_⟩ | refine And.intro (And.intro rfl rfl) ?_ | refine ⟨True.intro, ?_⟩ | refine ⟨_, ⟨_, rfl, ?_, rfl, rfl, rfl⟩, ?_⟩ | refine ⟨_, rfl, ?_, rfl, ?_⟩ | refine ⟨_, (fun _ => rfl), rfl, ?_⟩ | refine ⟨(fun _ => rfl), ?_⟩ | refine ⟨rfl, ?_⟩ | refine Opt.a ?_ | fail)
      all_goals try ((first | omega | (unfold I64; omega) | (simp only [List.length_append, List.length_map, List.length_cons, List.length_nil, Nat.mul_one, Int.ofNat_eq_natCast] at *; omega) | (dsimp only at *; omega) | (unfold I64; dsimp only at *; omega) | (unfold I64; grind) | grind); done)
      have hne : ¬ (each c[i] = true ∨ w = 1) := by
        rintro (h | h)
        · exact absurd ((show each c[i] = false by assumption).symm.trans h) (by decide)
        · exact of_decide_eq_false (by assumption) h
      have h4 : howFor c[i] = 4 := by
        rw [← hjf]
        exact of_decide_eq_true (p := (joinFor c[i]).1 = 4) (by assumption)
      have e2 : e.step w c[i] = ⟨q.nodes ++ [joinN (joinFor c[i]).1 c[i] q.cur], [⟨((q.nodes.map nodeV ++ [joinN (joinFor c[i]).1 c[i] q.cur].map nodeV).length : Int) - 1, 0⟩]⟩ := by
        unfold Desk.step Desk.fin
        rw [hb', hwk, if_neg hne, if_pos h4, hjf]
        simp
      refine ⟨i + 1, ?_, hi2, by show c.length - (i + 1) < c.length - i; omega⟩
      rw [hst, e2]
      have em1 : (q.nodes ++ [joinN (joinFor c[i]).1 c[i] q.cur]).map nodeV = q.nodes.map nodeV ++ [joinN (joinFor c[i]).1 c[i] q.cur].map nodeV := List.map_append
      dsimp only
      rw [em1]
      exact (by (refine wk_sel [some 0, some 1, some 2, some 12, some 13] rfl rfl ?_ ?_ <;> (repeat' (first | exact True.intro | exact rfl | exact Or.inl rfl | exact Or.inr rfl | refine And.intro ?_ ?_ | fail))))
  have hil : i = c.length := by grind
  have hel : steps w b c = e := by rw [← heq, hil, List.take_length]
  conv => whnf
  refine join_live [2, 4, 7] (σ := Unit) (fun _ => []) (fun _ => [.box [.sl strV f, .sl cmdV c, .str t], .box [.nil], .box [.own 3, .own 4], .row 8 (e.behind.nodes.map nodeV), .row 2 (e.behind.cur.map portV)]) (fun _ => True) ?_
  conv => whnf
  refine ⟨?_, fun _ _ => ?_⟩
  · repeat' (first | exact True.intro | refine ⟨_, LeL.refl _, ?_⟩ | refine ⟨_, _, _, LeL.refl _, ?_⟩ | (refine fun (b : Bool) hb => ?_; cases b <;> (first | exact absurd hb (by decide) | exact Bool.noConfusion (show true = false from hb) | exact Bool.noConfusion (show false = true from hb) | skip)) | (refine fun (hl : _ ≤ MAXL) => ?_) | refine And.intro (a := I64 _) ?_ ?_ | refine And.intro (a := _ ≤ 140737488355328) ?_ ?_ | refine ⟨_, ⟨rfl, rfl⟩, ?_⟩ | refine ⟨_, And.intro (a := I64 _) ?_ ⟨rfl, rfl⟩, ?_⟩ | refine ⟨_, _, ⟨rfl, rfl⟩, ?_⟩ | refine ⟨_, (fun _ => ⟨rfl, rfl⟩), ?_⟩ | refine And.intro (a := chkPend _ _ _ _ _ _) ?_ ?_ | refine And.intro (a := chkPast _ _ _ _ _ _ _ _) ?_ ?_ | refine ⟨⟨rfl, rfl⟩, ?_⟩ | refine And.intro (And.intro rfl rfl) ?_ | refine ⟨True.intro, ?_⟩ | refine ⟨_, ⟨_, rfl, ?_, rfl, rfl, rfl⟩, ?_⟩ | refine ⟨_, rfl, ?_, rfl, ?_⟩ | refine ⟨_, (fun _ => rfl), rfl, ?_⟩ | refine ⟨(fun _ => rfl), ?_⟩ | refine ⟨rfl, ?_⟩ | refine Opt.a ?_ | fail)
    · have e2 : e.behind = e := by unfold Desk.behind; rw [if_neg (by simp only [List.length_map] at *; grind)]
      refine ⟨(), ?_, trivial⟩
      rw [e2]
      exact (by (refine wk_sel [some 0, some 1, some 2, some 3, some 4] rfl rfl ?_ ?_ <;> (repeat' (first | exact True.intro | exact rfl | exact Or.inl rfl | exact Or.inr rfl | refine And.intro ?_ ?_ | fail))))
    have e2 : e.behind = ⟨e.nodes ++ [joinN 1 zCmd e.cur], [⟨e.nodes.length, 0⟩]⟩ := by unfold Desk.behind; rw [if_pos (by simp only [List.length_map] at *; grind)]
    refine ⟨_, ⟨Gp.Node, nodeV, [joinN 1 zCmd e.cur], LeL.refl _, rfl, rfl⟩, ?_⟩
    refine ⟨_, _, ⟨fun _ => rfl, ?_, rfl, rfl⟩, ?_⟩
    · simp only [List.length_map, List.length_cons, List.length_nil, elsOf]
      omega
    repeat' (first | exact True.intro | refine ⟨_, LeL.refl _, ?_⟩ | refine ⟨_, _, _, LeL.refl _, ?_⟩ | (refine fun (b : Bool) hb => ?_; cases b <;> (first | exact absurd hb (by decide) | exact Bool.noConfusion (show true = false from hb) | exact Bool.noConfusion (show false = true from hb) | skip)) | (refine fun (hl : _ ≤ MAXL) => ?_) | refine And.intro (a := I64 _) ?_ ?_ | refine And.intro (a := _ ≤ 140737488355328) ?_ ?_ | refine ⟨_, ⟨rfl, rfl⟩, ?_⟩ | refine ⟨_, And.intro (a := I64 _) ?_ ⟨rfl, rfl⟩, ?_⟩ | refine ⟨_, _, ⟨rfl, rfl⟩, ?_⟩ | refine ⟨_, (fun _ => ⟨rfl, rfl⟩), ?_⟩ | refine And.intro (a := chkPend _ _ _ _ _ _) ?_ ?_ | refine And.intro (a := chkPast _ _ _ _ _ _ _ _) ?_ ?_ | refine ⟨⟨rfl, rfl⟩, ?_⟩ | refine And.intro (And.intro rfl rfl) ?_ | refine ⟨True.intro, ?_⟩ | refine ⟨_, ⟨_, rfl, ?_, rfl, rfl, rfl⟩, ?_⟩ | refine ⟨_, rfl, ?_, rfl, ?_⟩ | refine ⟨_, (fun _ => rfl), rfl, ?_⟩ | refine ⟨(fun _ => rfl), ?_⟩ | refine ⟨rfl, ?_⟩ | refine Opt.a ?_ | fail)
    · simp only [List.length_append, List.length_map, List.length_cons, List.length_nil]
      unfold I64
      omega
    rw [e2]
    refine ⟨(), ?_, trivial⟩
    refine wk_sel [some 0, some 1, some 2, some 7, some 8] rfl rfl ⟨?_, ?_, ?_, ?_, ?_, trivial⟩ ?_
    · (repeat' (first | exact True.intro | exact rfl | exact Or.inl rfl | exact Or.inr rfl | refine And.intro ?_ ?_ | fail))
    · (repeat' (first | exact True.intro | exact rfl | exact Or.inl rfl | exact Or.inr rfl | refine And.intro ?_ ?_ | fail))
    · (repeat' (first | exact True.intro | exact rfl | exact Or.inl rfl | exact Or.inr rfl | refine And.intro ?_ ?_ | fail))
    · show Row.row 8 _ = Row.row 8 _
      simp
    · show Row.row 2 _ = Row.row 2 _
      simp [portV]
    · (repeat' (first | exact True.intro | exact rfl | exact Or.inl rfl | exact Or.inr rfl | refine And.intro ?_ ?_ | fail))
  obtain ⟨z, hz⟩ : ∃ z, e.behind = z := ⟨_, rfl⟩
  have hzl : z.nodes.length ≤ 60 ∧ z.cur.length ≤ 60 := by
    rw [← hz]
    unfold Desk.behind
    split
    · simp; omega
    · omega
  rw [hel, hz] at hpn
  rw [hz]
  repeat' (first | exact True.intro | refine ⟨_, LeL.refl _, ?_⟩ | refine ⟨_, _, _, LeL.refl _, ?_⟩ | (refine fun (b : Bool) hb => ?_; cases b <;> (first | exact absurd hb (by decide) | exact Bool.noConfusion (show true = false from hb) | exact Bool.noConfusion (show false = true from hb) | skip)) | (refine fun (hl : _ ≤ MAXL) => ?_) | refine And.intro (a := I64 _) ?_ ?_ | refine And.intro (a := _ ≤ 140737488355328) ?_ ?_ | refine ⟨_, ⟨rfl, rfl⟩, ?_⟩ | refine ⟨_, And.intro (a := I64 _) ?_ ⟨rfl, rfl⟩, ?_⟩ | refine ⟨_, _, ⟨rfl, rfl⟩, ?_⟩ | refine ⟨_, (fun _ => ⟨rfl, rfl⟩), ?_⟩ | refine And.intro (a := chkPend _ _ _ _ _ _) ?_ ?_ | refine And.intro (a := chkPast _ _ _ _ _ _ _ _) ?_ ?_ | refine ⟨⟨rfl, rfl⟩, ?_⟩ | refine And.intro (And.intro rfl rfl) ?_ | refine ⟨True.intro, ?_⟩ | refine ⟨_, ⟨_, rfl, ?_, rfl, rfl, rfl⟩, ?_⟩ | refine ⟨_, rfl, ?_, rfl, ?_⟩ | refine ⟨_, (fun _ => rfl), rfl, ?_⟩ | refine ⟨(fun _ => rfl), ?_⟩ | refine ⟨rfl, ?_⟩ | refine Opt.a ?_ | fail)
  apply Exists.intro
  apply Exists.intro
  apply And.intro
  · repeat' (first | exact True.intro | refine ⟨_, LeL.refl _, ?_⟩ | refine ⟨_, _, _, LeL.refl _, ?_⟩ | (refine fun (b : Bool) hb => ?_; cases b <;> (first | exact absurd hb (by decide) | exact Bool.noConfusion (show true = false from hb) | exact Bool.noConfusion (show false = true from hb) | skip)) | (refine fun (hl : _ ≤ MAXL) => ?_) | refine And.intro (a := I64 _) ?_ ?_ | refine And.intro (a := _ ≤ 140737488355328) ?_ ?_ | refine ⟨_, ⟨rfl, rfl⟩, ?_⟩ | refine ⟨_, And.intro (a := I64 _) ?_ ⟨rfl, rfl⟩, ?_⟩ | refine ⟨_, _, ⟨rfl, rfl⟩, ?_⟩ | refine ⟨_, (fun _ => ⟨rfl, rfl⟩), ?_⟩ | refine And.intro (a := chkPend _ _ _ _ _ _) ?_ ?_ | refine And.intro (a := chkPast _ _ _ _ _ _ _ _) ?_ ?_ | refine ⟨⟨rfl, rfl⟩, ?_⟩ | refine And.intro (And.intro rfl rfl) ?_ | refine ⟨True.intro, ?_⟩ | refine ⟨_, ⟨_, rfl, ?_, rfl, rfl, rfl⟩, ?_⟩ | refine ⟨_, rfl, ?_, rfl, ?_⟩ | refine ⟨_, (fun _ => rfl), rfl, ?_⟩ | refine ⟨(fun _ => rfl), ?_⟩ | refine ⟨rfl, ?_⟩ | refine Opt.a ?_ | fail)
    refine ⟨_, ⟨Gp.Node, nodeV, [sinkN t z.cur], LeL.refl _, rfl, rfl⟩, ?_⟩
    refine ⟨_, _, ⟨fun _ => rfl, ?_, rfl, rfl⟩, ?_⟩
    · simp only [List.length_map, List.length_cons, List.length_nil, elsOf]
      omega
    repeat' (first | exact True.intro | refine ⟨_, LeL.refl _, ?_⟩ | refine ⟨_, _, _, LeL.refl _, ?_⟩ | (refine fun (b : Bool) hb => ?_; cases b <;> (first | exact absurd hb (by decide) | exact Bool.noConfusion (show true = false from hb) | exact Bool.noConfusion (show false = true from hb) | skip)) | (refine fun (hl : _ ≤ MAXL) => ?_) | refine And.intro (a := I64 _) ?_ ?_ | refine And.intro (a := _ ≤ 140737488355328) ?_ ?_ | refine ⟨_, ⟨rfl, rfl⟩, ?_⟩ | refine ⟨_, And.intro (a := I64 _) ?_ ⟨rfl, rfl⟩, ?_⟩ | refine ⟨_, _, ⟨rfl, rfl⟩, ?_⟩ | refine ⟨_, (fun _ => ⟨rfl, rfl⟩), ?_⟩ | refine And.intro (a := chkPend _ _ _ _ _ _) ?_ ?_ | refine And.intro (a := chkPast _ _ _ _ _ _ _ _) ?_ ?_ | refine ⟨⟨rfl, rfl⟩, ?_⟩ | refine And.intro (And.intro rfl rfl) ?_ | refine ⟨True.intro, ?_⟩ | refine ⟨_, ⟨_, rfl, ?_, rfl, rfl, rfl⟩, ?_⟩ | refine ⟨_, rfl, ?_, rfl, ?_⟩ | refine ⟨_, (fun _ => rfl), rfl, ?_⟩ | refine ⟨(fun _ => rfl), ?_⟩ | refine ⟨rfl, ?_⟩ | refine Opt.a ?_ | fail)
    · simp only [List.length_append, List.length_map, List.length_cons, List.length_nil]
      unfold I64
      omega
    · exact rfl
  repeat' (first | exact True.intro | refine ⟨_, LeL.refl _, ?_⟩ | refine ⟨_, _, _, LeL.refl _, ?_⟩ | (refine fun (b : Bool) hb => ?_; cases b <;> (first | exact absurd hb (by decide) | exact Bool.noConfusion (show true = false from hb) | exact Bool.noConfusion (show false = true from hb) | skip)) | (refine fun (hl : _ ≤ MAXL) => ?_) | refine And.intro (a := I64 _) ?_ ?_ | refine And.intro (a := _ ≤ 140737488355328) ?_ ?_ | refine ⟨_, ⟨rfl, rfl⟩, ?_⟩ | refine ⟨_, And.intro (a := I64 _) ?_ ⟨rfl, rfl⟩, ?_⟩ | refine ⟨_, _, ⟨rfl, rfl⟩, ?_⟩ | refine ⟨_, (fun _ => ⟨rfl, rfl⟩), ?_⟩ | refine And.intro (a := chkPend _ _ _ _ _ _) ?_ ?_ | refine And.intro (a := chkPast _ _ _ _ _ _ _ _) ?_ ?_ | refine ⟨⟨rfl, rfl⟩, ?_⟩ | refine And.intro (And.intro rfl rfl) ?_ | refine ⟨True.intro, ?_⟩ | refine ⟨_, ⟨_, rfl, ?_, rfl, rfl, rfl⟩, ?_⟩ | refine ⟨_, rfl, ?_, rfl, ?_⟩ | refine ⟨_, (fun _ => rfl), rfl, ?_⟩ | refine ⟨(fun _ => rfl), ?_⟩ | refine ⟨rfl, ?_⟩ | refine Opt.a ?_ | fail)
  refine ⟨Gp.Node, nodeV, z.nodes ++ [sinkN t z.cur], by rw [List.map_append]; exact LeL.refl _, ?_⟩
  repeat' (first | exact True.intro | refine ⟨_, LeL.refl _, ?_⟩ | refine ⟨_, _, _, LeL.refl _, ?_⟩ | (refine fun (b : Bool) hb => ?_; cases b <;> (first | exact absurd hb (by decide) | exact Bool.noConfusion (show true = false from hb) | exact Bool.noConfusion (show false = true from hb) | skip)) | (refine fun (hl : _ ≤ MAXL) => ?_) | refine And.intro (a := I64 _) ?_ ?_ | refine And.intro (a := _ ≤ 140737488355328) ?_ ?_ | refine ⟨_, ⟨rfl, rfl⟩, ?_⟩ | refine ⟨_, And.intro (a := I64 _) ?_ ⟨rfl, rfl⟩, ?_⟩ | refine ⟨_, _, ⟨rfl, rfl⟩, ?_⟩ | refine ⟨_, (fun _ => ⟨rfl, rfl⟩), ?_⟩ | refine And.intro (a := chkPend _ _ _ _ _ _) ?_ ?_ | refine And.intro (a := chkPast _ _ _ _ _ _ _ _) ?_ ?_ | refine ⟨⟨rfl, rfl⟩, ?_⟩ | refine And.intro (And.intro rfl rfl) ?_ | refine ⟨True.intro, ?_⟩ | refine ⟨_, ⟨_, rfl, ?_, rfl, rfl, rfl⟩, ?_⟩ | refine ⟨_, rfl, ?_, rfl, ?_⟩ | refine ⟨_, (fun _ => rfl), rfl, ?_⟩ | refine ⟨(fun _ => rfl), ?_⟩ | refine ⟨rfl, ?_⟩ | refine Opt.a ?_ | fail)
  exact hK _ (by rw [hpn])
end Gv
namespace Gv
variable [Glob] [Laid]
theorem equalP_ca : callable Tryz.prog 146 = true := by kernel_rfl
def equalP_S : Spec := fun args K => ∃ a b : List Port, args = [.sl portV a, .sl portV b] ∧ K (.bool (decide (a = b)))
noncomputable def equalP_lib : List (Nat × Spec) := []
noncomputable def equalP_fns : List (Nat × FnI) := []
noncomputable def equalP_prims : List (Nat × PSpec) := []
theorem equalP_E : EnvOK ⟨Tryz.prog, tys, equalP_lib, equalP_fns, equalP_prims, [(173, [true, true])]⟩ := env_ok mixed0 tys0 .nil .nil .nil (by kernel_rfl)
set_option maxHeartbeats 4000000 in
theorem equalP_ok : Pure Tryz.prog 146 equalP_S := by
  refine pure_by equalP_E 6 (fi := {fn := Tryz.f146, hooks := [], draws := [(6, [0, 0, 3, 7, 0, 0, 48, 112, 255])]}) ⟨Tryz.func146, by kernel_rfl, by kernel_rfl⟩ ?_
  rintro _ K ⟨x, y, rfl, hK⟩
  replace hK : ∀ r, r = .bool (decide (x = y)) → K r := fun r h => h ▸ hK
  repeat' (first | exact True.intro | refine ⟨_, LeL.refl _, ?_⟩ | refine ⟨_, _, _, LeL.refl _, ?_⟩ | (refine fun (b : Bool) hb => ?_; cases b <;> (first | exact absurd hb (by decide) | exact Bool.noConfusion (show true = false from hb) | exact Bool.noConfusion (show false = true from hb) | skip)) | (refine fun (hl : _ ≤ MAXL) => ?_) | refine And.intro (a := I64 _) ?_ ?_ | refine And.intro (a := _ ≤ 140737488355328) ?_ ?_ | refine ⟨_, ⟨rfl, rfl⟩, ?_⟩ | refine ⟨_, And.intro (a := I64 _) ?_ ⟨rfl, rfl⟩, ?_⟩ | refine ⟨_, _, ⟨rfl, rfl⟩, ?_⟩ | refine ⟨_, (fun _ => ⟨rfl, rfl⟩), ?_⟩ | refine And.intro (a := chkPend _ _ _ _ _ _) ?_ ?_ | refine And.intro (a := chkPast _ _ _ _ _ _ _ _) ?_ ?_ | refine ⟨⟨rfl, rfl⟩, ?_⟩ | refine And.intro (And.intro rfl rfl) ?_ | refine ⟨True.intro, ?_⟩ | refine ⟨_, ⟨_, rfl, ?_, rfl, rfl, rfl⟩, ?_⟩ | refine ⟨_, rfl, ?_, rfl, ?_⟩ | refine ⟨_, (fun _ => rfl), rfl, ?_⟩ | refine ⟨(fun _ => rfl), ?_⟩ | refine ⟨rfl, ?_⟩ | refine Opt.a ?_ | fail)
  rotate_left
  · refine hK _ ?_
    congr 1
    grind
  conv => whnf
  refine loop_live [0, 1, 12] (σ := Nat) (fun i => [(13, .int .i64 i)]) (fun _ => []) (fun i => i ≤ x.length ∧ x.take i = y.take i) (fun i => x.length - i) 0 ?_
  conv => whnf
  refine ⟨wk_sel [] rfl rfl trivial (by (repeat' (first | exact True.intro | exact rfl | exact Or.inl rfl | exact Or.inr rfl | refine And.intro ?_ ?_ | fail))), ⟨Nat.zero_le _, rfl⟩, ?_⟩
  intro i ⟨hi, hI⟩
  repeat' (first | exact True.intro | refine ⟨_, LeL.refl _, ?_⟩ | refine ⟨_, _, _, LeL.refl _, ?_⟩ | (refine fun (b : Bool) hb => ?_; cases b <;> (first | exact absurd hb (by decide) | exact Bool.noConfusion (show true = false from hb) | exact Bool.noConfusion (show false = true from hb) | skip)) | (refine fun (hl : _ ≤ MAXL) => ?_) | refine And.intro (a := I64 _) ?_ ?_ | refine And.intro (a := _ ≤ 140737488355328) ?_ ?_ | refine ⟨_, ⟨rfl, rfl⟩, ?_⟩ | refine ⟨_, And.intro (a := I64 _) ?_ ⟨rfl, rfl⟩, ?_⟩ | refine ⟨_, _, ⟨rfl, rfl⟩, ?_⟩ | refine ⟨_, (fun _ => ⟨rfl, rfl⟩), ?_⟩ | refine And.intro (a := chkPend _ _ _ _ _ _) ?_ ?_ | refine And.intro (a := chkPast _ _ _ _ _ _ _ _) ?_ ?_ | refine ⟨⟨rfl, rfl⟩, ?_⟩ | refine And.intro (And.intro rfl rfl) ?_ | refine ⟨True.intro, ?_⟩ | refine ⟨_, ⟨_, rfl, ?_, rfl, rfl, rfl⟩, ?_⟩ | refine ⟨_, rfl, ?_, rfl, ?_⟩ | refine ⟨_, (fun _ => rfl), rfl, ?_⟩ | refine ⟨(fun _ => rfl), ?_⟩ | refine ⟨rfl, ?_⟩ | refine Opt.a ?_ | fail)
  all_goals try ((first | omega | (unfold I64; omega) | (simp only [List.length_append, List.length_map, List.length_cons, List.length_nil, Nat.mul_one, Int.ofNat_eq_natCast] at *; omega) | (dsimp only at *; omega) | (unfold I64; dsimp only at *; omega) | (unfold I64; grind) | grind); done)
  · refine hK _ ?_
    congr 1
    have e : x = y := by
      have h1 : x.take i = x := List.take_of_length_le (by grind)
      have h2 : y.take i = y := List.take_of_length_le (by grind)
      rw [← h1, ← h2, hI]
    simp [e]
  · have g1 : i < x.length := by grind
    have g2 : i < y.length := by grind
    refine ⟨i + 1, ?_, ⟨?_, ?_⟩, ?_⟩
    · refine wk_sel [] rfl rfl trivial ?_
      (repeat' (first | exact True.intro | exact rfl | exact Or.inl rfl | exact Or.inr rfl | refine And.intro ?_ ?_ | fail))
    · grind
    · rw [List.take_succ_eq_append_getElem g1, List.take_succ_eq_append_getElem g2, hI]
      have e : x[i] = y[i] := by
        have h1 : x[i].node = y[i].node ∧ x[i].out = y[i].out := by grind
        rcases hx : x[i] with ⟨a, b⟩
        rcases hy : y[i] with ⟨a', b'⟩
        rw [hx, hy] at h1
        simp only at h1
        rw [h1.1, h1.2]
      rw [e]
    · grind
  · refine hK _ ?_
    congr 1
    grind
end Gv
namespace Gv
variable [Glob] [Laid]
theorem same1_ca : callable Tryz.prog 145 = true := by kernel_rfl
def same1_S : Spec := fun args K => ∃ a b : Gp.Node, args = [nodeV a, nodeV b] ∧ K (.bool (decide (a = b)))
noncomputable def same1_lib : List (Nat × Spec) := [(146, equalP_S)]
noncomputable def same1_fns : List (Nat × FnI) := []
noncomputable def same1_prims : List (Nat × PSpec) := []
theorem same1_E : EnvOK ⟨Tryz.prog, tys, same1_lib, same1_fns, same1_prims, [(48, [true, false, true])]⟩ := env_ok mixed0 tys0 (.cons equalP_ca equalP_ok .nil) .nil .nil (by kernel_rfl)
set_option maxHeartbeats 4000000 in
theorem same1_ok : Pure Tryz.prog 145 same1_S := by
  refine pure_by same1_E 6 (fi := {fn := Tryz.f145, hooks := [], draws := []}) ⟨Tryz.func145, by kernel_rfl, by kernel_rfl⟩ ?_
  rintro _ K ⟨⟨k, f, ⟨ck, cw, cn⟩, h, w, ins⟩, ⟨k', f', ⟨ck', cw', cn'⟩, h', w', ins'⟩, rfl, hK⟩
  replace hK : ∀ r, r = .bool (decide ((⟨k, f, ⟨ck, cw, cn⟩, h, w, ins⟩ : Gp.Node) = ⟨k', f', ⟨ck', cw', cn'⟩, h', w', ins'⟩)) → K r := fun r h => h ▸ hK
  repeat' (first | exact True.intro | refine ⟨_, LeL.refl _, ?_⟩ | refine ⟨_, _, _, LeL.refl _, ?_⟩ | (refine fun (b : Bool) hb => ?_; cases b <;> (first | exact absurd hb (by decide) | exact Bool.noConfusion (show true = false from hb) | exact Bool.noConfusion (show false = true from hb) | skip)) | (refine fun (hl : _ ≤ MAXL) => ?_) | refine And.intro (a := I64 _) ?_ ?_ | refine And.intro (a := _ ≤ 140737488355328) ?_ ?_ | refine ⟨_, ⟨rfl, rfl⟩, ?_⟩ | refine ⟨_, And.intro (a := I64 _) ?_ ⟨rfl, rfl⟩, ?_⟩ | refine ⟨_, _, ⟨rfl, rfl⟩, ?_⟩ | refine ⟨_, (fun _ => ⟨rfl, rfl⟩), ?_⟩ | refine And.intro (a := chkPend _ _ _ _ _ _) ?_ ?_ | refine And.intro (a := chkPast _ _ _ _ _ _ _ _) ?_ ?_ | refine ⟨⟨rfl, rfl⟩, ?_⟩ | refine And.intro (And.intro rfl rfl) ?_ | refine ⟨True.intro, ?_⟩ | refine ⟨_, ⟨_, rfl, ?_, rfl, rfl, rfl⟩, ?_⟩ | refine ⟨_, rfl, ?_, rfl, ?_⟩ | refine ⟨_, (fun _ => rfl), rfl, ?_⟩ | refine ⟨(fun _ => rfl), ?_⟩ | refine ⟨rfl, ?_⟩ | refine Opt.a ?_ | refine ⟨_, _, rfl, ?_⟩ | fail)
  all_goals refine hK _ ?_
  all_goals congr 1
  all_goals grind
end Gv
namespace Gv
variable [Glob] [Laid]
theorem same_ca : callable Tryz.prog 80 = true := by kernel_rfl
def same_S : Spec := fun args K => ∃ a b : List Gp.Node, args = [.agg [.sl nodeV a], .agg [.sl nodeV b]] ∧ K (.bool (decide (a = b)))
noncomputable def same_lib : List (Nat × Spec) := [(145, same1_S)]
noncomputable def same_fns : List (Nat × FnI) := [(144, {fn := Tryz.f144, hooks := [], draws := []})]
noncomputable def same_prims : List (Nat × PSpec) := []
theorem same_E : EnvOK ⟨Tryz.prog, tys, same_lib, same_fns, same_prims, []⟩ := env_ok mixed0 tys0 (.cons same1_ca same1_ok .nil) (.cons (by kernel_rfl) ⟨Tryz.func144, by kernel_rfl, by kernel_rfl⟩ .nil) .nil rfl
set_option maxHeartbeats 4000000 in
theorem same_ok : Pure Tryz.prog 80 same_S := by
  refine pure_by same_E 6 (fi := {fn := Tryz.f80, hooks := [], draws := []}) ⟨Tryz.func80, by kernel_rfl, by kernel_rfl⟩ ?_
  rintro _ K ⟨x, y, rfl, hK⟩
  replace hK : ∀ r, r = .bool (decide (x = y)) → K r := fun r h => h ▸ hK
  repeat' (first | exact True.intro | refine ⟨_, LeL.refl _, ?_⟩ | refine ⟨_, _, _, LeL.refl _, ?_⟩ | (refine fun (b : Bool) hb => ?_; cases b <;> (first | exact absurd hb (by decide) | exact Bool.noConfusion (show true = false from hb) | exact Bool.noConfusion (show false = true from hb) | skip)) | (refine fun (hl : _ ≤ MAXL) => ?_) | refine And.intro (a := I64 _) ?_ ?_ | refine And.intro (a := _ ≤ 140737488355328) ?_ ?_ | refine ⟨_, ⟨rfl, rfl⟩, ?_⟩ | refine ⟨_, And.intro (a := I64 _) ?_ ⟨rfl, rfl⟩, ?_⟩ | refine ⟨_, _, ⟨rfl, rfl⟩, ?_⟩ | refine ⟨_, (fun _ => ⟨rfl, rfl⟩), ?_⟩ | refine And.intro (a := chkPend _ _ _ _ _ _) ?_ ?_ | refine And.intro (a := chkPast _ _ _ _ _ _ _ _) ?_ ?_ | refine ⟨⟨rfl, rfl⟩, ?_⟩ | refine And.intro (And.intro rfl rfl) ?_ | refine ⟨True.intro, ?_⟩ | refine ⟨_, ⟨_, rfl, ?_, rfl, rfl, rfl⟩, ?_⟩ | refine ⟨_, rfl, ?_, rfl, ?_⟩ | refine ⟨_, (fun _ => rfl), rfl, ?_⟩ | refine ⟨(fun _ => rfl), ?_⟩ | refine ⟨rfl, ?_⟩ | refine Opt.a ?_ | fail)
  rotate_left
  · refine hK _ ?_
    congr 1
    grind
  conv => whnf
  refine loop_live [1, 2, 15, 16] (σ := Nat) (fun i => [(17, .int .i64 i)]) (fun _ => [.box [.sl nodeV x], .box [.sl nodeV y]]) (fun i => i ≤ x.length ∧ x.take i = y.take i) (fun i => x.length - i) 0 ?_
  conv => whnf
  refine ⟨(by (refine wk_sel [some 0, some 1] rfl rfl ?_ ?_ <;> (repeat' (first | exact True.intro | exact rfl | exact Or.inl rfl | exact Or.inr rfl | refine And.intro ?_ ?_ | fail)))), ⟨Nat.zero_le _, rfl⟩, ?_⟩
  intro i ⟨hi, hI⟩
  repeat' (first | exact True.intro | refine ⟨_, LeL.refl _, ?_⟩ | refine ⟨_, _, _, LeL.refl _, ?_⟩ | (refine fun (b : Bool) hb => ?_; cases b <;> (first | exact absurd hb (by decide) | exact Bool.noConfusion (show true = false from hb) | exact Bool.noConfusion (show false = true from hb) | skip)) | (refine fun (hl : _ ≤ MAXL) => ?_) | refine And.intro (a := I64 _) ?_ ?_ | refine And.intro (a := _ ≤ 140737488355328) ?_ ?_ | refine ⟨_, ⟨rfl, rfl⟩, ?_⟩ | refine ⟨_, And.intro (a := I64 _) ?_ ⟨rfl, rfl⟩, ?_⟩ | refine ⟨_, _, ⟨rfl, rfl⟩, ?_⟩ | refine ⟨_, (fun _ => ⟨rfl, rfl⟩), ?_⟩ | refine And.intro (a := chkPend _ _ _ _ _ _) ?_ ?_ | refine And.intro (a := chkPast _ _ _ _ _ _ _ _) ?_ ?_ | refine ⟨⟨rfl, rfl⟩, ?_⟩ | refine And.intro (And.intro rfl rfl) ?_ | refine ⟨True.intro, ?_⟩ | refine ⟨_, ⟨_, rfl, ?_, rfl, rfl, rfl⟩, ?_⟩ | refine ⟨_, rfl, ?_, rfl, ?_⟩ | refine ⟨_, (fun _ => rfl), rfl, ?_⟩ | refine ⟨(fun _ => rfl), ?_⟩ | refine ⟨rfl, ?_⟩ | refine Opt.a ?_ | fail)
  all_goals try ((first | omega | (unfold I64; omega) | (simp only [List.length_append, List.length_map, List.length_cons, List.length_nil, Nat.mul_one, Int.ofNat_eq_natCast] at *; omega) | (dsimp only at *; omega) | (unfold I64; dsimp only at *; omega) | (unfold I64; grind) | grind); done)
  · refine hK _ ?_
    congr 1
    have e : x = y := by
      have h1 : x.take i = x := List.take_of_length_le (by grind)
      have h2 : y.take i = y := List.take_of_length_le (by grind)
      rw [← h1, ← h2, hI]
    simp [e]
  have g1 : i < x.length := by grind
  have g2 : i < y.length := by grind
  refine ⟨x[i], y[i], rfl, ?_⟩
  repeat' (first | exact True.intro | refine ⟨_, LeL.refl _, ?_⟩ | refine ⟨_, _, _, LeL.refl _, ?_⟩ | (refine fun (b : Bool) hb => ?_; cases b <;> (first | exact absurd hb (by decide) | exact Bool.noConfusion (show true = false from hb) | exact Bool.noConfusion (show false = true from hb) | skip)) | (refine fun (hl : _ ≤ MAXL) => ?_) | refine And.intro (a := I64 _) ?_ ?_ | refine And.intro (a := _ ≤ 140737488355328) ?_ ?_ | refine ⟨_, ⟨rfl, rfl⟩, ?_⟩ | refine ⟨_, And.intro (a := I64 _) ?_ ⟨rfl, rfl⟩, ?_⟩ | refine ⟨_, _, ⟨rfl, rfl⟩, ?_⟩ | refine ⟨_, (fun _ => ⟨rfl, rfl⟩), ?_⟩ | refine And.intro (a := chkPend _ _ _ _ _ _) ?_ ?_ | refine And.intro (a := chkPast _ _ _ _ _ _ _ _) ?_ ?_ | refine ⟨⟨rfl, rfl⟩, ?_⟩ | refine And.intro (And.intro rfl rfl) ?_ | refine ⟨True.intro, ?_⟩ | refine ⟨_, ⟨_, rfl, ?_, rfl, rfl, rfl⟩, ?_⟩ | refine ⟨_, rfl, ?_, rfl, ?_⟩ | refine ⟨_, (fun _ => rfl), rfl, ?_⟩ | refine ⟨(fun _ => rfl), ?_⟩ | refine ⟨rfl, ?_⟩ | refine Opt.a ?_ | fail)
  all_goals try ((first | omega | (unfold I64; omega) | (simp only [List.length_append, List.length_map, List.length_cons, List.length_nil, Nat.mul_one, Int.ofNat_eq_natCast] at *; omega) | (dsimp only at *; omega) | (unfold I64; dsimp only at *; omega) | (unfold I64; grind) | grind); done)
  · refine ⟨i + 1, ?_, ⟨?_, ?_⟩, ?_⟩
    · exact (by (refine wk_sel [some 0, some 1] rfl rfl ?_ ?_ <;> (repeat' (first | exact True.intro | exact rfl | exact Or.inl rfl | exact Or.inr rfl | refine And.intro ?_ ?_ | fail))))
    · grind
    · rw [List.take_succ_eq_append_getElem g1, List.take_succ_eq_append_getElem g2, hI]
      have e : x[i] = y[i] := by grind
      rw [e]
    · grind
  · refine hK _ ?_
    congr 1
    grind
end Gv
namespace Gv
variable [Glob] [Laid]
def sorterNodes : List Gp.Node := [srcN [97], splitN 2 [⟨0, 0⟩], workN ⟨6, [], 0⟩ [⟨1, 0⟩], workN ⟨6, [], 0⟩ [⟨1, 1⟩], joinN 2 zCmd [⟨2, 0⟩, ⟨3, 0⟩], sinkN [98] [⟨4, 0⟩]]
theorem sorter_ca : callable Tryz.prog 137 = true := by kernel_rfl
def sorter_S : Spec := fun args K => args = [] ∧ K (.agg [.sl nodeV sorterNodes])
noncomputable def sorter_lib : List (Nat × Spec) := []
noncomputable def sorter_fns : List (Nat × FnI) := []
noncomputable def sorter_prims : List (Nat × PSpec) := []
theorem sorter_E : EnvOK ⟨Tryz.prog, tys, sorter_lib, sorter_fns, sorter_prims, []⟩ := env_ok mixed0 tys0 .nil .nil .nil rfl
set_option maxHeartbeats 4000000 in
set_option maxRecDepth 10000 in
theorem sorter_ok : Pure Tryz.prog 137 sorter_S := by
  refine pure_by sorter_E 6 (fi := {fn := Tryz.f137, hooks := [], draws := []}) ⟨Tryz.func137, by kernel_rfl, by kernel_rfl⟩ ?_
  rintro _ K ⟨rfl, hK⟩
  repeat' (first | exact True.intro | refine ⟨_, LeL.refl _, ?_⟩ | refine ⟨_, _, _, LeL.refl _, ?_⟩ | (refine fun (b : Bool) hb => ?_; cases b <;> (first | exact absurd hb (by decide) | exact Bool.noConfusion (show true = false from hb) | exact Bool.noConfusion (show false = true from hb) | skip)) | (refine fun (hl : _ ≤ MAXL) => ?_) | refine And.intro (a := I64 _) ?_ ?_ | refine And.intro (a := _ ≤ 140737488355328) ?_ ?_ | refine ⟨_, ⟨rfl, rfl⟩, ?_⟩ | refine ⟨_, And.intro (a := I64 _) ?_ ⟨rfl, rfl⟩, ?_⟩ | refine ⟨_, _, ⟨rfl, rfl⟩, ?_⟩ | refine ⟨_, (fun _ => ⟨rfl, rfl⟩), ?_⟩ | refine And.intro (a := chkPend _ _ _ _ _ _) ?_ ?_ | refine And.intro (a := chkPast _ _ _ _ _ _ _ _) ?_ ?_ | refine ⟨⟨rfl, rfl⟩, ?_⟩ | refine And.intro (And.intro rfl rfl) ?_ | refine ⟨True.intro, ?_⟩ | refine ⟨_, ⟨_, rfl, ?_, rfl, rfl, rfl⟩, ?_⟩ | refine ⟨_, rfl, ?_, rfl, ?_⟩ | refine ⟨_, (fun _ => rfl), rfl, ?_⟩ | refine ⟨(fun _ => rfl), ?_⟩ | refine ⟨rfl, ?_⟩ | refine Opt.a ?_ | fail)
  refine ⟨Gp.Port, portV, ?_⟩
  repeat' (first | exact True.intro | refine ⟨_, LeL.refl _, ?_⟩ | refine ⟨_, _, _, LeL.refl _, ?_⟩ | (refine fun (b : Bool) hb => ?_; cases b <;> (first | exact absurd hb (by decide) | exact Bool.noConfusion (show true = false from hb) | exact Bool.noConfusion (show false = true from hb) | skip)) | (refine fun (hl : _ ≤ MAXL) => ?_) | refine And.intro (a := I64 _) ?_ ?_ | refine And.intro (a := _ ≤ 140737488355328) ?_ ?_ | refine ⟨_, ⟨rfl, rfl⟩, ?_⟩ | refine ⟨_, And.intro (a := I64 _) ?_ ⟨rfl, rfl⟩, ?_⟩ | refine ⟨_, _, ⟨rfl, rfl⟩, ?_⟩ | refine ⟨_, (fun _ => ⟨rfl, rfl⟩), ?_⟩ | refine And.intro (a := chkPend _ _ _ _ _ _) ?_ ?_ | refine And.intro (a := chkPast _ _ _ _ _ _ _ _) ?_ ?_ | refine ⟨⟨rfl, rfl⟩, ?_⟩ | refine And.intro (And.intro rfl rfl) ?_ | refine ⟨True.intro, ?_⟩ | refine ⟨_, ⟨_, rfl, ?_, rfl, rfl, rfl⟩, ?_⟩ | refine ⟨_, rfl, ?_, rfl, ?_⟩ | refine ⟨_, (fun _ => rfl), rfl, ?_⟩ | refine ⟨(fun _ => rfl), ?_⟩ | refine ⟨rfl, ?_⟩ | refine Opt.a ?_ | fail)
  refine ⟨Gp.Port, portV, [⟨0, 0⟩], LeL.refl _, ?_⟩
  repeat' (first | exact True.intro | refine ⟨_, LeL.refl _, ?_⟩ | refine ⟨_, _, _, LeL.refl _, ?_⟩ | (refine fun (b : Bool) hb => ?_; cases b <;> (first | exact absurd hb (by decide) | exact Bool.noConfusion (show true = false from hb) | exact Bool.noConfusion (show false = true from hb) | skip)) | (refine fun (hl : _ ≤ MAXL) => ?_) | refine And.intro (a := I64 _) ?_ ?_ | refine And.intro (a := _ ≤ 140737488355328) ?_ ?_ | refine ⟨_, ⟨rfl, rfl⟩, ?_⟩ | refine ⟨_, And.intro (a := I64 _) ?_ ⟨rfl, rfl⟩, ?_⟩ | refine ⟨_, _, ⟨rfl, rfl⟩, ?_⟩ | refine ⟨_, (fun _ => ⟨rfl, rfl⟩), ?_⟩ | refine And.intro (a := chkPend _ _ _ _ _ _) ?_ ?_ | refine And.intro (a := chkPast _ _ _ _ _ _ _ _) ?_ ?_ | refine ⟨⟨rfl, rfl⟩, ?_⟩ | refine And.intro (And.intro rfl rfl) ?_ | refine ⟨True.intro, ?_⟩ | refine ⟨_, ⟨_, rfl, ?_, rfl, rfl, rfl⟩, ?_⟩ | refine ⟨_, rfl, ?_, rfl, ?_⟩ | refine ⟨_, (fun _ => rfl), rfl, ?_⟩ | refine ⟨(fun _ => rfl), ?_⟩ | refine ⟨rfl, ?_⟩ | refine Opt.a ?_ | fail)
  refine ⟨Gp.Port, portV, [⟨1, 0⟩], LeL.refl _, ?_⟩
  repeat' (first | exact True.intro | refine ⟨_, LeL.refl _, ?_⟩ | refine ⟨_, _, _, LeL.refl _, ?_⟩ | (refine fun (b : Bool) hb => ?_; cases b <;> (first | exact absurd hb (by decide) | exact Bool.noConfusion (show true = false from hb) | exact Bool.noConfusion (show false = true from hb) | skip)) | (refine fun (hl : _ ≤ MAXL) => ?_) | refine And.intro (a := I64 _) ?_ ?_ | refine And.intro (a := _ ≤ 140737488355328) ?_ ?_ | refine ⟨_, ⟨rfl, rfl⟩, ?_⟩ | refine ⟨_, And.intro (a := I64 _) ?_ ⟨rfl, rfl⟩, ?_⟩ | refine ⟨_, _, ⟨rfl, rfl⟩, ?_⟩ | refine ⟨_, (fun _ => ⟨rfl, rfl⟩), ?_⟩ | refine And.intro (a := chkPend _ _ _ _ _ _) ?_ ?_ | refine And.intro (a := chkPast _ _ _ _ _ _ _ _) ?_ ?_ | refine ⟨⟨rfl, rfl⟩, ?_⟩ | refine And.intro (And.intro rfl rfl) ?_ | refine ⟨True.intro, ?_⟩ | refine ⟨_, ⟨_, rfl, ?_, rfl, rfl, rfl⟩, ?_⟩ | refine ⟨_, rfl, ?_, rfl, ?_⟩ | refine ⟨_, (fun _ => rfl), rfl, ?_⟩ | refine ⟨(fun _ => rfl), ?_⟩ | refine ⟨rfl, ?_⟩ | refine Opt.a ?_ | fail)
  refine ⟨Gp.Port, portV, [⟨1, 1⟩], LeL.refl _, ?_⟩
  repeat' (first | exact True.intro | refine ⟨_, LeL.refl _, ?_⟩ | refine ⟨_, _, _, LeL.refl _, ?_⟩ | (refine fun (b : Bool) hb => ?_; cases b <;> (first | exact absurd hb (by decide) | exact Bool.noConfusion (show true = false from hb) | exact Bool.noConfusion (show false = true from hb) | skip)) | (refine fun (hl : _ ≤ MAXL) => ?_) | refine And.intro (a := I64 _) ?_ ?_ | refine And.intro (a := _ ≤ 140737488355328) ?_ ?_ | refine ⟨_, ⟨rfl, rfl⟩, ?_⟩ | refine ⟨_, And.intro (a := I64 _) ?_ ⟨rfl, rfl⟩, ?_⟩ | refine ⟨_, _, ⟨rfl, rfl⟩, ?_⟩ | refine ⟨_, (fun _ => ⟨rfl, rfl⟩), ?_⟩ | refine And.intro (a := chkPend _ _ _ _ _ _) ?_ ?_ | refine And.intro (a := chkPast _ _ _ _ _ _ _ _) ?_ ?_ | refine ⟨⟨rfl, rfl⟩, ?_⟩ | refine And.intro (And.intro rfl rfl) ?_ | refine ⟨True.intro, ?_⟩ | refine ⟨_, ⟨_, rfl, ?_, rfl, rfl, rfl⟩, ?_⟩ | refine ⟨_, rfl, ?_, rfl, ?_⟩ | refine ⟨_, (fun _ => rfl), rfl, ?_⟩ | refine ⟨(fun _ => rfl), ?_⟩ | refine ⟨rfl, ?_⟩ | refine Opt.a ?_ | fail)
  refine ⟨Gp.Port, portV, [⟨2, 0⟩, ⟨3, 0⟩], LeL.refl _, ?_⟩
  repeat' (first | exact True.intro | refine ⟨_, LeL.refl _, ?_⟩ | refine ⟨_, _, _, LeL.refl _, ?_⟩ | (refine fun (b : Bool) hb => ?_; cases b <;> (first | exact absurd hb (by decide) | exact Bool.noConfusion (show true = false from hb) | exact Bool.noConfusion (show false = true from hb) | skip)) | (refine fun (hl : _ ≤ MAXL) => ?_) | refine And.intro (a := I64 _) ?_ ?_ | refine And.intro (a := _ ≤ 140737488355328) ?_ ?_ | refine ⟨_, ⟨rfl, rfl⟩, ?_⟩ | refine ⟨_, And.intro (a := I64 _) ?_ ⟨rfl, rfl⟩, ?_⟩ | refine ⟨_, _, ⟨rfl, rfl⟩, ?_⟩ | refine ⟨_, (fun _ => ⟨rfl, rfl⟩), ?_⟩ | refine And.intro (a := chkPend _ _ _ _ _ _) ?_ ?_ | refine And.intro (a := chkPast _ _ _ _ _ _ _ _) ?_ ?_ | refine ⟨⟨rfl, rfl⟩, ?_⟩ | refine And.intro (And.intro rfl rfl) ?_ | refine ⟨True.intro, ?_⟩ | refine ⟨_, ⟨_, rfl, ?_, rfl, rfl, rfl⟩, ?_⟩ | refine ⟨_, rfl, ?_, rfl, ?_⟩ | refine ⟨_, (fun _ => rfl), rfl, ?_⟩ | refine ⟨(fun _ => rfl), ?_⟩ | refine ⟨rfl, ?_⟩ | refine Opt.a ?_ | fail)
  refine ⟨Gp.Port, portV, [⟨4, 0⟩], LeL.refl _, ?_⟩
  repeat' (first | exact True.intro | refine ⟨_, LeL.refl _, ?_⟩ | refine ⟨_, _, _, LeL.refl _, ?_⟩ | (refine fun (b : Bool) hb => ?_; cases b <;> (first | exact absurd hb (by decide) | exact Bool.noConfusion (show true = false from hb) | exact Bool.noConfusion (show false = true from hb) | skip)) | (refine fun (hl : _ ≤ MAXL) => ?_) | refine And.intro (a := I64 _) ?_ ?_ | refine And.intro (a := _ ≤ 140737488355328) ?_ ?_ | refine ⟨_, ⟨rfl, rfl⟩, ?_⟩ | refine ⟨_, And.intro (a := I64 _) ?_ ⟨rfl, rfl⟩, ?_⟩ | refine ⟨_, _, ⟨rfl, rfl⟩, ?_⟩ | refine ⟨_, (fun _ => ⟨rfl, rfl⟩), ?_⟩ | refine And.intro (a := chkPend _ _ _ _ _ _) ?_ ?_ | refine And.intro (a := chkPast _ _ _ _ _ _ _ _) ?_ ?_ | refine ⟨⟨rfl, rfl⟩, ?_⟩ | refine And.intro (And.intro rfl rfl) ?_ | refine ⟨True.intro, ?_⟩ | refine ⟨_, ⟨_, rfl, ?_, rfl, rfl, rfl⟩, ?_⟩ | refine ⟨_, rfl, ?_, rfl, ?_⟩ | refine ⟨_, (fun _ => rfl), rfl, ?_⟩ | refine ⟨(fun _ => rfl), ?_⟩ | refine ⟨rfl, ?_⟩ | refine Opt.a ?_ | fail)
  refine ⟨Gp.Node, nodeV, sorterNodes, LeL.refl _, ?_⟩
  exact hK
end Gv
namespace Gv
variable [Glob] [Laid]
theorem plan_sorter : plan ⟨[[97]], [⟨6, [], 0⟩], [98]⟩ 2 = (sorterNodes, 0) := by decide +kernel
theorem planned_ca : callable Tryz.prog 77 = true := by kernel_rfl
def planned_S : Spec := fun args K => args = [] ∧ K (.bool true)
noncomputable def planned_lib : List (Nat × Spec) := [(80, same_S), (145, same1_S), (76, plan_S), (137, sorter_S)]
noncomputable def planned_fns : List (Nat × FnI) := []
noncomputable def planned_prims : List (Nat × PSpec) := []
theorem planned_E : EnvOK ⟨Tryz.prog, tys, planned_lib, planned_fns, planned_prims, []⟩ := env_ok mixed0 tys0 (.cons same_ca same_ok (.cons same1_ca same1_ok (.cons plan_ca plan_ok (.cons sorter_ca sorter_ok .nil)))) .nil .nil rfl
set_option maxHeartbeats 4000000 in
theorem planned_ok : Pure Tryz.prog 77 planned_S := by
  refine pure_by planned_E 6 (fi := {fn := Tryz.f77, hooks := [], draws := [(2, [0, 1, 3, 7, 7, 31, 63, 127])]}) ⟨Tryz.func77, by kernel_rfl, by kernel_rfl⟩ ?_
  rintro _ K ⟨rfl, hK⟩
  have e1 := plan_sorter
  obtain ⟨pn, hpn⟩ : ∃ pn, plan ⟨[[97]], [⟨6, [], 0⟩], [98]⟩ 2 = pn := ⟨_, rfl⟩
  rw [hpn] at e1
  subst e1
  repeat' (first | exact True.intro | refine ⟨_, LeL.refl _, ?_⟩ | refine ⟨_, _, _, LeL.refl _, ?_⟩ | (refine fun (b : Bool) hb => ?_; cases b <;> (first | exact absurd hb (by decide) | exact Bool.noConfusion (show true = false from hb) | exact Bool.noConfusion (show false = true from hb) | skip)) | (refine fun (hl : _ ≤ MAXL) => ?_) | refine And.intro (a := I64 _) ?_ ?_ | refine And.intro (a := _ ≤ 140737488355328) ?_ ?_ | refine ⟨_, ⟨rfl, rfl⟩, ?_⟩ | refine ⟨_, And.intro (a := I64 _) ?_ ⟨rfl, rfl⟩, ?_⟩ | refine ⟨_, _, ⟨rfl, rfl⟩, ?_⟩ | refine ⟨_, (fun _ => ⟨rfl, rfl⟩), ?_⟩ | refine And.intro (a := chkPend _ _ _ _ _ _) ?_ ?_ | refine And.intro (a := chkPast _ _ _ _ _ _ _ _) ?_ ?_ | refine ⟨⟨rfl, rfl⟩, ?_⟩ | refine And.intro (And.intro rfl rfl) ?_ | refine ⟨True.intro, ?_⟩ | refine ⟨_, ⟨_, rfl, ?_, rfl, rfl, rfl⟩, ?_⟩ | refine ⟨_, rfl, ?_, rfl, ?_⟩ | refine ⟨_, (fun _ => rfl), rfl, ?_⟩ | refine ⟨(fun _ => rfl), ?_⟩ | refine ⟨rfl, ?_⟩ | refine Opt.a ?_ | fail)
  refine ⟨_, strV, [[97]], LeL.refl _, ?_⟩
  refine ⟨_, cmdV, [⟨6, [], 0⟩], LeL.refl _, ?_⟩
  refine ⟨[[97]], [⟨6, [], 0⟩], [98], 2, rfl, ?_⟩
  rw [hpn]
  repeat' (first | exact True.intro | refine ⟨_, LeL.refl _, ?_⟩ | refine ⟨_, _, _, LeL.refl _, ?_⟩ | (refine fun (b : Bool) hb => ?_; cases b <;> (first | exact absurd hb (by decide) | exact Bool.noConfusion (show true = false from hb) | exact Bool.noConfusion (show false = true from hb) | skip)) | (refine fun (hl : _ ≤ MAXL) => ?_) | refine And.intro (a := I64 _) ?_ ?_ | refine And.intro (a := _ ≤ 140737488355328) ?_ ?_ | refine ⟨_, ⟨rfl, rfl⟩, ?_⟩ | refine ⟨_, And.intro (a := I64 _) ?_ ⟨rfl, rfl⟩, ?_⟩ | refine ⟨_, _, ⟨rfl, rfl⟩, ?_⟩ | refine ⟨_, (fun _ => ⟨rfl, rfl⟩), ?_⟩ | refine And.intro (a := chkPend _ _ _ _ _ _) ?_ ?_ | refine And.intro (a := chkPast _ _ _ _ _ _ _ _) ?_ ?_ | refine ⟨⟨rfl, rfl⟩, ?_⟩ | refine And.intro (And.intro rfl rfl) ?_ | refine ⟨True.intro, ?_⟩ | refine ⟨_, ⟨_, rfl, ?_, rfl, rfl, rfl⟩, ?_⟩ | refine ⟨_, rfl, ?_, rfl, ?_⟩ | refine ⟨_, (fun _ => rfl), rfl, ?_⟩ | refine ⟨(fun _ => rfl), ?_⟩ | refine ⟨rfl, ?_⟩ | refine Opt.a ?_ | fail)
  refine ⟨_, ⟨rfl, rfl, rfl⟩, ?_⟩
  repeat' (first | exact True.intro | refine ⟨_, LeL.refl _, ?_⟩ | refine ⟨_, _, _, LeL.refl _, ?_⟩ | (refine fun (b : Bool) hb => ?_; cases b <;> (first | exact absurd hb (by decide) | exact Bool.noConfusion (show true = false from hb) | exact Bool.noConfusion (show false = true from hb) | skip)) | (refine fun (hl : _ ≤ MAXL) => ?_) | refine And.intro (a := I64 _) ?_ ?_ | refine And.intro (a := _ ≤ 140737488355328) ?_ ?_ | refine ⟨_, ⟨rfl, rfl⟩, ?_⟩ | refine ⟨_, And.intro (a := I64 _) ?_ ⟨rfl, rfl⟩, ?_⟩ | refine ⟨_, _, ⟨rfl, rfl⟩, ?_⟩ | refine ⟨_, (fun _ => ⟨rfl, rfl⟩), ?_⟩ | refine And.intro (a := chkPend _ _ _ _ _ _) ?_ ?_ | refine And.intro (a := chkPast _ _ _ _ _ _ _ _) ?_ ?_ | refine ⟨⟨rfl, rfl⟩, ?_⟩ | refine And.intro (And.intro rfl rfl) ?_ | refine ⟨True.intro, ?_⟩ | refine ⟨_, ⟨_, rfl, ?_, rfl, rfl, rfl⟩, ?_⟩ | refine ⟨_, rfl, ?_, rfl, ?_⟩ | refine ⟨_, (fun _ => rfl), rfl, ?_⟩ | refine ⟨(fun _ => rfl), ?_⟩ | refine ⟨rfl, ?_⟩ | refine Opt.a ?_ | fail)
  refine ⟨_, ⟨_, _, rfl, rfl, rfl⟩, ?_⟩
  repeat' (first | exact True.intro | refine ⟨_, LeL.refl _, ?_⟩ | refine ⟨_, _, _, LeL.refl _, ?_⟩ | (refine fun (b : Bool) hb => ?_; cases b <;> (first | exact absurd hb (by decide) | exact Bool.noConfusion (show true = false from hb) | exact Bool.noConfusion (show false = true from hb) | skip)) | (refine fun (hl : _ ≤ MAXL) => ?_) | refine And.intro (a := I64 _) ?_ ?_ | refine And.intro (a := _ ≤ 140737488355328) ?_ ?_ | refine ⟨_, ⟨rfl, rfl⟩, ?_⟩ | refine ⟨_, And.intro (a := I64 _) ?_ ⟨rfl, rfl⟩, ?_⟩ | refine ⟨_, _, ⟨rfl, rfl⟩, ?_⟩ | refine ⟨_, (fun _ => ⟨rfl, rfl⟩), ?_⟩ | refine And.intro (a := chkPend _ _ _ _ _ _) ?_ ?_ | refine And.intro (a := chkPast _ _ _ _ _ _ _ _) ?_ ?_ | refine ⟨⟨rfl, rfl⟩, ?_⟩ | refine And.intro (And.intro rfl rfl) ?_ | refine ⟨True.intro, ?_⟩ | refine ⟨_, ⟨_, rfl, ?_, rfl, rfl, rfl⟩, ?_⟩ | refine ⟨_, rfl, ?_, rfl, ?_⟩ | refine ⟨_, (fun _ => rfl), rfl, ?_⟩ | refine ⟨(fun _ => rfl), ?_⟩ | refine ⟨rfl, ?_⟩ | refine Opt.a ?_ | fail)
  have e2 : V.bool (decide ((sorterNodes, (0 : Int)).1 = sorterNodes)) = .bool true := by simp
  exact e2 ▸ hK
end Gv
namespace Gv
variable [Glob] [Laid]
theorem checkJ_ca : callable Tryz.prog 61 = true := by kernel_rfl
def checkJ_S : Spec := fun args K => ∃ (h : Int) (c : Cmd), args = [.int .i64 h, cmdV c] ∧ K (.int .i64 (checkJoin h c))
noncomputable def checkJ_lib : List (Nat × Spec) := [(31, ccheck_S)]
noncomputable def checkJ_fns : List (Nat × FnI) := []
noncomputable def checkJ_prims : List (Nat × PSpec) := []
theorem checkJ_E : EnvOK ⟨Tryz.prog, tys, checkJ_lib, checkJ_fns, checkJ_prims, [(48, [true, false, true])]⟩ := env_ok mixed0 tys0 (.cons ccheck_ca ccheck_ok .nil) .nil .nil (by kernel_rfl)
set_option maxHeartbeats 4000000 in
theorem checkJ_ok : Pure Tryz.prog 61 checkJ_S := by
  refine pure_by checkJ_E 6 (fi := {fn := Tryz.f61, hooks := [], draws := []}) ⟨Tryz.func61, by kernel_rfl, by kernel_rfl⟩ ?_
  rintro _ K ⟨h, c, rfl, hK⟩
  replace hK : ∀ r, r = .int .i64 (checkJoin h c) → K r := fun r h => h ▸ hK
  obtain ⟨ck, cw, cn⟩ := c
  obtain ⟨q, hq⟩ : ∃ q, checkCmd ⟨ck, cw, cn⟩ = q := ⟨_, rfl⟩
  unfold checkJoin at hK
  rw [hq] at hK
  repeat' (first | exact True.intro | refine ⟨_, LeL.refl _, ?_⟩ | refine ⟨_, _, _, LeL.refl _, ?_⟩ | (refine fun (b : Bool) hb => ?_; cases b <;> (first | exact absurd hb (by decide) | exact Bool.noConfusion (show true = false from hb) | exact Bool.noConfusion (show false = true from hb) | skip)) | (refine fun (hl : _ ≤ MAXL) => ?_) | refine And.intro (a := I64 _) ?_ ?_ | refine And.intro (a := _ ≤ 140737488355328) ?_ ?_ | refine ⟨_, ⟨rfl, rfl⟩, ?_⟩ | refine ⟨_, And.intro (a := I64 _) ?_ ⟨rfl, rfl⟩, ?_⟩ | refine ⟨_, _, ⟨rfl, rfl⟩, ?_⟩ | refine ⟨_, (fun _ => ⟨rfl, rfl⟩), ?_⟩ | refine And.intro (a := chkPend _ _ _ _ _ _) ?_ ?_ | refine And.intro (a := chkPast _ _ _ _ _ _ _ _) ?_ ?_ | refine ⟨⟨rfl, rfl⟩, ?_⟩ | refine And.intro (And.intro rfl rfl) ?_ | refine ⟨True.intro, ?_⟩ | refine ⟨_, ⟨_, rfl, ?_, rfl, rfl, rfl⟩, ?_⟩ | refine ⟨_, rfl, ?_, rfl, ?_⟩ | refine ⟨_, (fun _ => rfl), rfl, ?_⟩ | refine ⟨(fun _ => rfl), ?_⟩ | refine ⟨rfl, ?_⟩ | refine Opt.a ?_ | fail)
  · have h1 : ¬ h < 1 := of_decide_eq_false (by assumption)
    have h2 : ¬ 4 < h := of_decide_eq_false (by assumption)
    have h3 : h = 4 := by
      have h3 : (!decide (h = 4)) = false := by assumption
      simpa using h3
    refine ⟨ck, cw, cn, rfl, ?_⟩
    rw [hq]
    repeat' (first | exact True.intro | refine ⟨_, LeL.refl _, ?_⟩ | refine ⟨_, _, _, LeL.refl _, ?_⟩ | (refine fun (b : Bool) hb => ?_; cases b <;> (first | exact absurd hb (by decide) | exact Bool.noConfusion (show true = false from hb) | exact Bool.noConfusion (show false = true from hb) | skip)) | (refine fun (hl : _ ≤ MAXL) => ?_) | refine And.intro (a := I64 _) ?_ ?_ | refine And.intro (a := _ ≤ 140737488355328) ?_ ?_ | refine ⟨_, ⟨rfl, rfl⟩, ?_⟩ | refine ⟨_, And.intro (a := I64 _) ?_ ⟨rfl, rfl⟩, ?_⟩ | refine ⟨_, _, ⟨rfl, rfl⟩, ?_⟩ | refine ⟨_, (fun _ => ⟨rfl, rfl⟩), ?_⟩ | refine And.intro (a := chkPend _ _ _ _ _ _) ?_ ?_ | refine And.intro (a := chkPast _ _ _ _ _ _ _ _) ?_ ?_ | refine ⟨⟨rfl, rfl⟩, ?_⟩ | refine And.intro (And.intro rfl rfl) ?_ | refine ⟨True.intro, ?_⟩ | refine ⟨_, ⟨_, rfl, ?_, rfl, rfl, rfl⟩, ?_⟩ | refine ⟨_, rfl, ?_, rfl, ?_⟩ | refine ⟨_, (fun _ => rfl), rfl, ?_⟩ | refine ⟨(fun _ => rfl), ?_⟩ | refine ⟨rfl, ?_⟩ | refine Opt.a ?_ | fail)
    refine hK _ ?_
    rw [if_neg (by omega), if_neg (by omega)]
  · have h1 : ¬ h < 1 := of_decide_eq_false (by assumption)
    have h2 : ¬ 4 < h := of_decide_eq_false (by assumption)
    have h3 : ¬ h = 4 := by
      have h3 : (!decide (h = 4)) = true := by assumption
      simpa using h3
    have hz : (⟨ck, cw, cn⟩ : Cmd) = zCmd := by
      unfold zCmd
      grind
    conv => whnf
    refine hK _ ?_
    rw [if_neg (by omega), if_pos h3, if_neg (fun e => e hz)]
  · have h1 : ¬ h < 1 := of_decide_eq_false (by assumption)
    have h2 : ¬ 4 < h := of_decide_eq_false (by assumption)
    have h3 : ¬ h = 4 := by
      have h3 : (!decide (h = 4)) = true := by assumption
      simpa using h3
    have hz : (⟨ck, cw, cn⟩ : Cmd) ≠ zCmd := by
      unfold zCmd
      grind
    conv => whnf
    refine hK _ ?_
    rw [if_neg (by omega), if_pos h3, if_pos hz]
  · have h2 : 4 < h := of_decide_eq_true (by assumption)
    conv => whnf
    refine hK _ ?_
    rw [if_pos (by omega)]
  · have h2 : h < 1 := of_decide_eq_true (by assumption)
    conv => whnf
    refine hK _ ?_
    rw [if_pos (by omega)]
end Gv
namespace Gv
variable [Glob] [Laid]
theorem cmd_ext {a b : Cmd} (h1 : a.kind = b.kind) (h2 : a.word = b.word) (h3 : a.n = b.n) : a = b := by
  cases a; cases b; simp_all
theorem node_ext {a b : Gp.Node} (h1 : a.kind = b.kind) (h2 : a.file = b.file) (h3 : a.c = b.c) (h4 : a.how = b.how) (h5 : a.wide = b.wide) (h6 : a.ins = b.ins) : a = b := by
  cases a; cases b; simp_all
theorem checkN_ca : callable Tryz.prog 143 = true := by kernel_rfl
def checkN_S : Spec := fun args K => ∃ n : Gp.Node, args = [nodeV n] ∧ K (.int .i64 (checkN n))
noncomputable def checkN_lib : List (Nat × Spec) := [(32, word_S), (31, ccheck_S), (61, checkJ_S)]
noncomputable def checkN_fns : List (Nat × FnI) := []
noncomputable def checkN_prims : List (Nat × PSpec) := []
theorem checkN_E : EnvOK ⟨Tryz.prog, tys, checkN_lib, checkN_fns, checkN_prims, [(48, [true, false, true])]⟩ := env_ok mixed0 tys0 (.cons word_ca word_ok (.cons ccheck_ca ccheck_ok (.cons checkJ_ca checkJ_ok .nil))) .nil .nil (by kernel_rfl)
set_option maxHeartbeats 8000000 in
theorem checkN_ok : Pure Tryz.prog 143 checkN_S := by
  refine pure_by checkN_E 6 (fi := {fn := Tryz.f143, hooks := [23], draws := [(20, [0, 1, 0, 4, 3, 19, 63, 127])]}) ⟨Tryz.func143, by kernel_rfl, by kernel_rfl⟩ ?_
  rintro _ K ⟨n, rfl, hK⟩
  replace hK : ∀ r, r = .int .i64 (checkN n) → K r := fun r h => h ▸ hK
  repeat' (first | exact True.intro | refine ⟨_, LeL.refl _, ?_⟩ | refine ⟨_, _, _, LeL.refl _, ?_⟩ | (refine fun (b : Bool) hb => ?_; cases b <;> (first | exact absurd hb (by decide) | exact Bool.noConfusion (show true = false from hb) | exact Bool.noConfusion (show false = true from hb) | skip)) | (refine fun (hl : _ ≤ MAXL) => ?_) | refine And.intro (a := I64 _) ?_ ?_ | refine And.intro (a := _ ≤ 140737488355328) ?_ ?_ | refine ⟨_, ⟨rfl, rfl⟩, ?_⟩ | refine ⟨_, And.intro (a := I64 _) ?_ ⟨rfl, rfl⟩, ?_⟩ | refine ⟨_, _, ⟨rfl, rfl⟩, ?_⟩ | refine ⟨_, (fun _ => ⟨rfl, rfl⟩), ?_⟩ | refine And.intro (a := chkPend _ _ _ _ _ _) ?_ ?_ | refine And.intro (a := chkPast _ _ _ _ _ _ _ _) ?_ ?_ | refine ⟨⟨rfl, rfl⟩, ?_⟩ | refine And.intro (And.intro rfl rfl) ?_ | refine ⟨True.intro, ?_⟩ | refine ⟨_, ⟨_, rfl, ?_, rfl, rfl, rfl⟩, ?_⟩ | refine ⟨_, rfl, ?_, rfl, ?_⟩ | refine ⟨_, (fun _ => rfl), rfl, ?_⟩ | refine ⟨(fun _ => rfl), ?_⟩ | refine ⟨rfl, ?_⟩ | refine Opt.a ?_ | fail)
  conv => whnf
  refine join_live [1, 3] (σ := Unit) (fun _ => [(4, .int .i64 (errN n)), (5, .bool (insN n))]) (fun _ => [.box (nodeV n).cells, .box (nodeV (wantN n)).cells]) (fun _ => 1 ≤ n.kind ∧ n.kind ≤ 5) ?_
  conv => whnf
  refine ⟨?_, fun _ hk => ?_⟩
  · repeat' (first | exact True.intro | refine ⟨_, LeL.refl _, ?_⟩ | refine ⟨_, _, _, LeL.refl _, ?_⟩ | (refine fun (b : Bool) hb => ?_; cases b <;> (first | exact absurd hb (by decide) | exact Bool.noConfusion (show true = false from hb) | exact Bool.noConfusion (show false = true from hb) | skip)) | (refine fun (hl : _ ≤ MAXL) => ?_) | refine And.intro (a := I64 _) ?_ ?_ | refine And.intro (a := _ ≤ 140737488355328) ?_ ?_ | refine ⟨_, ⟨rfl, rfl⟩, ?_⟩ | refine ⟨_, And.intro (a := I64 _) ?_ ⟨rfl, rfl⟩, ?_⟩ | refine ⟨_, _, ⟨rfl, rfl⟩, ?_⟩ | refine ⟨_, (fun _ => ⟨rfl, rfl⟩), ?_⟩ | refine And.intro (a := chkPend _ _ _ _ _ _) ?_ ?_ | refine And.intro (a := chkPast _ _ _ _ _ _ _ _) ?_ ?_ | refine ⟨⟨rfl, rfl⟩, ?_⟩ | refine And.intro (And.intro rfl rfl) ?_ | refine ⟨True.intro, ?_⟩ | refine ⟨_, ⟨_, rfl, ?_, rfl, rfl, rfl⟩, ?_⟩ | refine ⟨_, rfl, ?_, rfl, ?_⟩ | refine ⟨_, (fun _ => rfl), rfl, ?_⟩ | refine ⟨(fun _ => rfl), ?_⟩ | refine ⟨rfl, ?_⟩ | refine Opt.a ?_ | fail)
    all_goals first | exact absurd ((by assumption : decide (n.kind = 1) = true).symm.trans (by assumption : decide (n.kind = 1) = false)) (by decide) | skip
    · have h1 : ¬ n.kind = 1 := of_decide_eq_false (by assumption)
      have h5 : ¬ n.kind = 5 := of_decide_eq_false (by assumption)
      have h2 : ¬ n.kind = 2 := of_decide_eq_false (by assumption)
      have h3 : ¬ n.kind = 3 := of_decide_eq_false (by assumption)
      have h4 : ¬ n.kind = 4 := of_decide_eq_false (by assumption)
      conv => whnf
      refine hK _ ?_
      unfold checkN
      rw [if_pos (by omega)]
    · have h4 : n.kind = 4 := of_decide_eq_true (by assumption)
      have e1 : errN n = checkJoin n.how n.c := by unfold errN; rw [if_neg (by omega), if_neg (by omega), if_neg (by omega)]
      have e2 : insN n = (decide ((1 : Int) ≤ (n.ins.length : Int)) && decide ((n.ins.length : Int) ≤ 5)) := by unfold insN; rw [if_neg (by omega), if_pos h4]
      have e3 : wantN n = ⟨n.kind, [], n.c, n.how, 0, n.ins⟩ := by unfold wantN; simp [h4]
      conv => whnf
      refine ⟨n.how, n.c, rfl, ?_⟩
      repeat' (first | exact True.intro | refine ⟨_, LeL.refl _, ?_⟩ | refine ⟨_, _, _, LeL.refl _, ?_⟩ | (refine fun (b : Bool) hb => ?_; cases b <;> (first | exact absurd hb (by decide) | exact Bool.noConfusion (show true = false from hb) | exact Bool.noConfusion (show false = true from hb) | skip)) | (refine fun (hl : _ ≤ MAXL) => ?_) | refine And.intro (a := I64 _) ?_ ?_ | refine And.intro (a := _ ≤ 140737488355328) ?_ ?_ | refine ⟨_, ⟨rfl, rfl⟩, ?_⟩ | refine ⟨_, And.intro (a := I64 _) ?_ ⟨rfl, rfl⟩, ?_⟩ | refine ⟨_, _, ⟨rfl, rfl⟩, ?_⟩ | refine ⟨_, (fun _ => ⟨rfl, rfl⟩), ?_⟩ | refine And.intro (a := chkPend _ _ _ _ _ _) ?_ ?_ | refine And.intro (a := chkPast _ _ _ _ _ _ _ _) ?_ ?_ | refine ⟨⟨rfl, rfl⟩, ?_⟩ | refine And.intro (And.intro rfl rfl) ?_ | refine ⟨True.intro, ?_⟩ | refine ⟨_, ⟨_, rfl, ?_, rfl, rfl, rfl⟩, ?_⟩ | refine ⟨_, rfl, ?_, rfl, ?_⟩ | refine ⟨_, (fun _ => rfl), rfl, ?_⟩ | refine ⟨(fun _ => rfl), ?_⟩ | refine ⟨rfl, ?_⟩ | refine Opt.a ?_ | fail)
      all_goals (conv => whnf)
      · refine ⟨(), ?_, by omega⟩
        rw [e1, e2, e3, (by assumption : decide ((1 : Int) ≤ (n.ins.length : Int)) = false), Bool.false_and]
        exact (by (refine wk_auto ?_; refine Sel4.mk rfl rfl ?_ ?_ <;> (repeat' (first | exact True.intro | exact rfl | exact Or.inl rfl | exact Or.inr rfl | refine And.intro ?_ ?_ | fail))))
      · refine ⟨(), ?_, by omega⟩
        rw [e1, e2, e3, (by assumption : decide ((1 : Int) ≤ (n.ins.length : Int)) = true), Bool.true_and]
        exact (by (refine wk_auto ?_; refine Sel4.mk rfl rfl ?_ ?_ <;> (repeat' (first | exact True.intro | exact rfl | exact Or.inl rfl | exact Or.inr rfl | refine And.intro ?_ ?_ | fail))))
    · have h3 : n.kind = 3 := of_decide_eq_true (by assumption)
      have e1 : errN n = checkCmd n.c := by unfold errN; rw [if_neg (by omega), if_neg (by omega), if_pos h3]
      have e2 : insN n = decide ((n.ins.length : Int) = 1) := by unfold insN; rw [if_neg (by omega), if_neg (by omega)]
      have e3 : wantN n = ⟨n.kind, [], n.c, 0, 0, n.ins⟩ := by unfold wantN; simp [h3]
      conv => whnf
      refine ⟨n.c.kind, n.c.word, n.c.n, rfl, ?_⟩
      conv => whnf
      refine ⟨(), ?_, by omega⟩
      rw [e1, e2, e3]
      exact (by (refine wk_auto ?_; refine Sel4.mk rfl rfl ?_ ?_ <;> (repeat' (first | exact True.intro | exact rfl | exact Or.inl rfl | exact Or.inr rfl | refine And.intro ?_ ?_ | fail))))
    · have h2 : n.kind = 2 := of_decide_eq_true (by assumption)
      have e1 : errN n = 0 := by unfold errN; rw [if_neg (by omega), if_pos h2, if_neg (by have := of_decide_eq_false (by assumption : decide (n.wide < 1) = false); have := of_decide_eq_false (by assumption : decide (5 < n.wide) = false); omega)]
      have e2 : insN n = decide ((n.ins.length : Int) = 1) := by unfold insN; rw [if_neg (by omega), if_neg (by omega)]
      have e3 : wantN n = ⟨n.kind, [], zCmd, 0, n.wide, n.ins⟩ := by unfold wantN; simp [h2]
      conv => whnf
      refine ⟨(), ?_, by omega⟩
      rw [e1, e2, e3]
      exact (by (refine wk_auto ?_; refine Sel4.mk rfl rfl ?_ ?_ <;> (repeat' (first | exact True.intro | exact rfl | exact Or.inl rfl | exact Or.inr rfl | refine And.intro ?_ ?_ | fail))))
    · have h2 : n.kind = 2 := of_decide_eq_true (by assumption)
      have e1 : errN n = 3 := by unfold errN; rw [if_neg (by omega), if_pos h2, if_pos (.inr (of_decide_eq_true (by assumption : decide (5 < n.wide) = true)))]
      have e2 : insN n = decide ((n.ins.length : Int) = 1) := by unfold insN; rw [if_neg (by omega), if_neg (by omega)]
      have e3 : wantN n = ⟨n.kind, [], zCmd, 0, n.wide, n.ins⟩ := by unfold wantN; simp [h2]
      conv => whnf
      refine ⟨(), ?_, by omega⟩
      rw [e1, e2, e3]
      exact (by (refine wk_auto ?_; refine Sel4.mk rfl rfl ?_ ?_ <;> (repeat' (first | exact True.intro | exact rfl | exact Or.inl rfl | exact Or.inr rfl | refine And.intro ?_ ?_ | fail))))
    · have h2 : n.kind = 2 := of_decide_eq_true (by assumption)
      have e1 : errN n = 3 := by unfold errN; rw [if_neg (by omega), if_pos h2, if_pos (.inl (of_decide_eq_true (by assumption : decide (n.wide < 1) = true)))]
      have e2 : insN n = decide ((n.ins.length : Int) = 1) := by unfold insN; rw [if_neg (by omega), if_neg (by omega)]
      have e3 : wantN n = ⟨n.kind, [], zCmd, 0, n.wide, n.ins⟩ := by unfold wantN; simp [h2]
      conv => whnf
      refine ⟨(), ?_, by omega⟩
      rw [e1, e2, e3]
      exact (by (refine wk_auto ?_; refine Sel4.mk rfl rfl ?_ ?_ <;> (repeat' (first | exact True.intro | exact rfl | exact Or.inl rfl | exact Or.inr rfl | refine And.intro ?_ ?_ | fail))))
    · have h5 : n.kind = 5 := of_decide_eq_true (by assumption)
      have e1 : errN n = if isWord n.file = true then 0 else 1 := by unfold errN; rw [if_pos (.inr h5)]
      have e2 : insN n = ((decide ((n.ins.length : Int) = 1) == decide (n.kind = 5)) && decide ((n.ins.length : Int) < 2)) := by unfold insN; rw [if_pos (.inr h5)]
      have e3 : wantN n = ⟨n.kind, n.file, zCmd, 0, 0, n.ins⟩ := by unfold wantN; simp [h5]
      conv => whnf
      refine ⟨n.file, rfl, ?_⟩
      repeat' (first | exact True.intro | refine ⟨_, LeL.refl _, ?_⟩ | refine ⟨_, _, _, LeL.refl _, ?_⟩ | (refine fun (b : Bool) hb => ?_; cases b <;> (first | exact absurd hb (by decide) | exact Bool.noConfusion (show true = false from hb) | exact Bool.noConfusion (show false = true from hb) | skip)) | (refine fun (hl : _ ≤ MAXL) => ?_) | refine And.intro (a := I64 _) ?_ ?_ | refine And.intro (a := _ ≤ 140737488355328) ?_ ?_ | refine ⟨_, ⟨rfl, rfl⟩, ?_⟩ | refine ⟨_, And.intro (a := I64 _) ?_ ⟨rfl, rfl⟩, ?_⟩ | refine ⟨_, _, ⟨rfl, rfl⟩, ?_⟩ | refine ⟨_, (fun _ => ⟨rfl, rfl⟩), ?_⟩ | refine And.intro (a := chkPend _ _ _ _ _ _) ?_ ?_ | refine And.intro (a := chkPast _ _ _ _ _ _ _ _) ?_ ?_ | refine ⟨⟨rfl, rfl⟩, ?_⟩ | refine And.intro (And.intro rfl rfl) ?_ | refine ⟨True.intro, ?_⟩ | refine ⟨_, ⟨_, rfl, ?_, rfl, rfl, rfl⟩, ?_⟩ | refine ⟨_, rfl, ?_, rfl, ?_⟩ | refine ⟨_, (fun _ => rfl), rfl, ?_⟩ | refine ⟨(fun _ => rfl), ?_⟩ | refine ⟨rfl, ?_⟩ | refine Opt.a ?_ | fail)
      all_goals (conv => whnf)
      all_goals refine ⟨(), ?_, by omega⟩
      all_goals rw [e1, e2, e3]
      all_goals first | rw [(by assumption : (decide ((n.ins.length : Int) = 1) == decide (n.kind = 5)) = false), Bool.false_and] | rw [(by assumption : (decide ((n.ins.length : Int) = 1) == decide (n.kind = 5)) = true), Bool.true_and]
      all_goals first | rw [if_neg (by simpa using (by assumption : (!isWord n.file) = true))] | rw [if_pos (by simpa using (by assumption : (!isWord n.file) = false))]
      all_goals exact (by (refine wk_auto ?_; refine Sel4.mk rfl rfl ?_ ?_ <;> (repeat' (first | exact True.intro | exact rfl | exact Or.inl rfl | exact Or.inr rfl | refine And.intro ?_ ?_ | fail))))
    · have h5 : n.kind = 1 := of_decide_eq_true (by assumption)
      have e1 : errN n = if isWord n.file = true then 0 else 1 := by unfold errN; rw [if_pos (.inl h5)]
      have e2 : insN n = ((decide ((n.ins.length : Int) = 1) == decide (n.kind = 5)) && decide ((n.ins.length : Int) < 2)) := by unfold insN; rw [if_pos (.inl h5)]
      have e3 : wantN n = ⟨n.kind, n.file, zCmd, 0, 0, n.ins⟩ := by unfold wantN; simp [h5]
      conv => whnf
      refine ⟨n.file, rfl, ?_⟩
      repeat' (first | exact True.intro | refine ⟨_, LeL.refl _, ?_⟩ | refine ⟨_, _, _, LeL.refl _, ?_⟩ | (refine fun (b : Bool) hb => ?_; cases b <;> (first | exact absurd hb (by decide) | exact Bool.noConfusion (show true = false from hb) | exact Bool.noConfusion (show false = true from hb) | skip)) | (refine fun (hl : _ ≤ MAXL) => ?_) | refine And.intro (a := I64 _) ?_ ?_ | refine And.intro (a := _ ≤ 140737488355328) ?_ ?_ | refine ⟨_, ⟨rfl, rfl⟩, ?_⟩ | refine ⟨_, And.intro (a := I64 _) ?_ ⟨rfl, rfl⟩, ?_⟩ | refine ⟨_, _, ⟨rfl, rfl⟩, ?_⟩ | refine ⟨_, (fun _ => ⟨rfl, rfl⟩), ?_⟩ | refine And.intro (a := chkPend _ _ _ _ _ _) ?_ ?_ | refine And.intro (a := chkPast _ _ _ _ _ _ _ _) ?_ ?_ | refine ⟨⟨rfl, rfl⟩, ?_⟩ | refine And.intro (And.intro rfl rfl) ?_ | refine ⟨True.intro, ?_⟩ | refine ⟨_, ⟨_, rfl, ?_, rfl, rfl, rfl⟩, ?_⟩ | refine ⟨_, rfl, ?_, rfl, ?_⟩ | refine ⟨_, (fun _ => rfl), rfl, ?_⟩ | refine ⟨(fun _ => rfl), ?_⟩ | refine ⟨rfl, ?_⟩ | refine Opt.a ?_ | fail)
      all_goals (conv => whnf)
      all_goals refine ⟨(), ?_, by omega⟩
      all_goals rw [e1, e2, e3]
      all_goals first | rw [(by assumption : (decide ((n.ins.length : Int) = 1) == decide (n.kind = 5)) = false), Bool.false_and] | rw [(by assumption : (decide ((n.ins.length : Int) = 1) == decide (n.kind = 5)) = true), Bool.true_and]
      all_goals first | rw [if_neg (by simpa using (by assumption : (!isWord n.file) = true))] | rw [if_pos (by simpa using (by assumption : (!isWord n.file) = false))]
      all_goals exact (by (refine wk_auto ?_; refine Sel4.mk rfl rfl ?_ ?_ <;> (repeat' (first | exact True.intro | exact rfl | exact Or.inl rfl | exact Or.inr rfl | refine And.intro ?_ ?_ | fail))))
  · have hce : checkN n = if errN n ≠ 0 then errN n else if insN n = true ∧ n = wantN n then 0 else 4 := by unfold checkN; rw [if_neg (by omega)]
    rw [hce] at hK
    have hw1 : (wantN n).kind = n.kind := rfl
    have hw2 : (wantN n).ins = n.ins := rfl
    repeat' (first | exact True.intro | refine ⟨_, LeL.refl _, ?_⟩ | refine ⟨_, _, _, LeL.refl _, ?_⟩ | (refine fun (b : Bool) hb => ?_; cases b <;> (first | exact absurd hb (by decide) | exact Bool.noConfusion (show true = false from hb) | exact Bool.noConfusion (show false = true from hb) | skip)) | (refine fun (hl : _ ≤ MAXL) => ?_) | refine And.intro (a := I64 _) ?_ ?_ | refine And.intro (a := _ ≤ 140737488355328) ?_ ?_ | refine ⟨_, ⟨rfl, rfl⟩, ?_⟩ | refine ⟨_, And.intro (a := I64 _) ?_ ⟨rfl, rfl⟩, ?_⟩ | refine ⟨_, _, ⟨rfl, rfl⟩, ?_⟩ | refine ⟨_, (fun _ => ⟨rfl, rfl⟩), ?_⟩ | refine And.intro (a := chkPend _ _ _ _ _ _) ?_ ?_ | refine And.intro (a := chkPast _ _ _ _ _ _ _ _) ?_ ?_ | refine ⟨⟨rfl, rfl⟩, ?_⟩ | refine And.intro (And.intro rfl rfl) ?_ | refine ⟨True.intro, ?_⟩ | refine ⟨_, ⟨_, rfl, ?_, rfl, rfl, rfl⟩, ?_⟩ | refine ⟨_, rfl, ?_, rfl, ?_⟩ | refine ⟨_, (fun _ => rfl), rfl, ?_⟩ | refine ⟨(fun _ => rfl), ?_⟩ | refine ⟨rfl, ?_⟩ | refine Opt.a ?_ | fail)
    all_goals conv => whnf
    all_goals refine hK _ (congrArg (V.int .i64) ?_)
    all_goals first | (rw [if_neg (by simpa using (by assumption : (!decide (errN n = 0)) = false))]) | (rw [if_pos (by simpa using (by assumption : (!decide (errN n = 0)) = true))])
    · have f1 : insN n = true := by simpa using (by assumption : (!insN n) = false)
      have f2 : n.file = (wantN n).file := by simpa using (by assumption : (!decide (n.file = (wantN n).file)) = false)
      have f3 : n.how = (wantN n).how := by simpa using (by assumption : (!decide (n.how = (wantN n).how)) = false)
      have f4 : n.wide = (wantN n).wide := by simpa using (by assumption : (!decide (n.wide = (wantN n).wide)) = false)
      have f5 : n.c = (wantN n).c := by
        have h := (by assumption : (!(decide (n.c.kind = (wantN n).c.kind) && (decide (n.c.word = (wantN n).c.word) && (decide (n.c.n = (wantN n).c.n) && true)))) = false)
        have h : n.c.kind = (wantN n).c.kind ∧ n.c.word = (wantN n).c.word ∧ n.c.n = (wantN n).c.n := by simpa using h
        exact cmd_ext h.1 h.2.1 h.2.2
      rw [if_pos ⟨f1, node_ext rfl f2 f5 f3 f4 rfl⟩]
    · have f4 : ¬ n.wide = (wantN n).wide := by simpa using (by assumption : (!decide (n.wide = (wantN n).wide)) = true)
      rw [if_neg (fun x => f4 (congrArg Gp.Node.wide x.2))]
    · have f4 : ¬ n.how = (wantN n).how := by simpa using (by assumption : (!decide (n.how = (wantN n).how)) = true)
      rw [if_neg (fun x => f4 (congrArg Gp.Node.how x.2))]
    · have h := (by assumption : (!(decide (n.c.kind = (wantN n).c.kind) && (decide (n.c.word = (wantN n).c.word) && (decide (n.c.n = (wantN n).c.n) && true)))) = true)
      have f4 : ¬ n.c = (wantN n).c := fun e => by
        rw [← e] at h
        simp at h
      rw [if_neg (fun x => f4 (congrArg Gp.Node.c x.2))]
    · have f4 : ¬ n.file = (wantN n).file := by simpa using (by assumption : (!decide (n.file = (wantN n).file)) = true)
      rw [if_neg (fun x => f4 (congrArg Gp.Node.file x.2))]
    · have f4 : ¬ insN n = true := by simpa using (by assumption : (!insN n) = true)
      rw [if_neg (fun x => f4 x.1)]
end Gv
namespace Gv
variable [Glob] [Laid]
theorem outs_ca : callable Tryz.prog 82 = true := by kernel_rfl
def outs_S : Spec := fun args K => ∃ n : Gp.Node, args = [nodeV n] ∧ K (.int .i64 (outsN n))
noncomputable def outs_lib : List (Nat × Spec) := []
noncomputable def outs_fns : List (Nat × FnI) := []
noncomputable def outs_prims : List (Nat × PSpec) := []
theorem outs_E : EnvOK ⟨Tryz.prog, tys, outs_lib, outs_fns, outs_prims, []⟩ := env_ok mixed0 tys0 .nil .nil .nil rfl
set_option maxHeartbeats 4000000 in
theorem outs_ok : Pure Tryz.prog 82 outs_S := by
  refine pure_by outs_E 6 (fi := {fn := Tryz.f82, hooks := [], draws := []}) ⟨Tryz.func82, by kernel_rfl, by kernel_rfl⟩ ?_
  rintro _ K ⟨n, rfl, hK⟩
  replace hK : ∀ r, r = .int .i64 (outsN n) → K r := fun r h => h ▸ hK
  unfold outsN at hK
  repeat' (first | exact True.intro | refine ⟨_, LeL.refl _, ?_⟩ | refine ⟨_, _, _, LeL.refl _, ?_⟩ | (refine fun (b : Bool) hb => ?_; cases b <;> (first | exact absurd hb (by decide) | exact Bool.noConfusion (show true = false from hb) | exact Bool.noConfusion (show false = true from hb) | skip)) | (refine fun (hl : _ ≤ MAXL) => ?_) | refine And.intro (a := I64 _) ?_ ?_ | refine And.intro (a := _ ≤ 140737488355328) ?_ ?_ | refine ⟨_, ⟨rfl, rfl⟩, ?_⟩ | refine ⟨_, And.intro (a := I64 _) ?_ ⟨rfl, rfl⟩, ?_⟩ | refine ⟨_, _, ⟨rfl, rfl⟩, ?_⟩ | refine ⟨_, (fun _ => ⟨rfl, rfl⟩), ?_⟩ | refine And.intro (a := chkPend _ _ _ _ _ _) ?_ ?_ | refine And.intro (a := chkPast _ _ _ _ _ _ _ _) ?_ ?_ | refine ⟨⟨rfl, rfl⟩, ?_⟩ | refine And.intro (And.intro rfl rfl) ?_ | refine ⟨True.intro, ?_⟩ | refine ⟨_, ⟨_, rfl, ?_, rfl, rfl, rfl⟩, ?_⟩ | refine ⟨_, rfl, ?_, rfl, ?_⟩ | refine ⟨_, (fun _ => rfl), rfl, ?_⟩ | refine ⟨(fun _ => rfl), ?_⟩ | refine ⟨rfl, ?_⟩ | refine Opt.a ?_ | fail)
  · have h2 : ¬ n.kind = 2 := of_decide_eq_false (by assumption)
    have h5 : ¬ n.kind = 5 := of_decide_eq_false (by assumption)
    rw [if_neg h2, if_neg h5] at hK
    exact hK _ rfl
  · have h2 : ¬ n.kind = 2 := of_decide_eq_false (by assumption)
    have h5 : n.kind = 5 := of_decide_eq_true (by assumption)
    rw [if_neg h2, if_pos h5] at hK
    exact hK _ rfl
  · have h2 : n.kind = 2 := of_decide_eq_true (by assumption)
    rw [if_pos h2] at hK
    exact hK _ rfl
end Gv
namespace Gv
variable [Glob] [Laid]
theorem checkG_ca : callable Tryz.prog 78 = true := by kernel_rfl
def checkG_S : Spec := fun args K => ∃ N : List Gp.Node, args = [.agg [.sl nodeV N]] ∧ K (.int .i64 (checkG N))
noncomputable def checkG_lib : List (Nat × Spec) := [(143, checkN_S), (82, outs_S)]
noncomputable def checkG_fns : List (Nat × FnI) := []
noncomputable def checkG_prims : List (Nat × PSpec) := []
theorem checkG_E : EnvOK ⟨Tryz.prog, tys, checkG_lib, checkG_fns, checkG_prims, [(173, [true, true])]⟩ := env_ok mixed0 tys0 (.cons checkN_ca checkN_ok (.cons outs_ca outs_ok .nil)) .nil .nil (by kernel_rfl)
set_option maxHeartbeats 80000000 in
theorem checkG_ok : Pure Tryz.prog 78 checkG_S := by
  refine pure_by checkG_E 6 (fi := {fn := Tryz.f78, hooks := [16], draws := [(14, [0, 1, 3, 7, 15, 31, 15, 127, 255, 511, 1023, 2047, 4095, 8191, 16383, 32767, 65535, 32767, 163839, 32767, 557055, 1998847, 4095999, 8290303, 16777215, 33554431])]}) ⟨Tryz.func78, by kernel_rfl, by kernel_rfl⟩ ?_
  rintro _ K ⟨N, rfl, hK⟩
  replace hK : ∀ r, r = .int .i64 (checkG N) → K r := fun r h => h ▸ hK
  unfold checkG at hK
  repeat' (first | exact True.intro | refine ⟨_, LeL.refl _, ?_⟩ | refine ⟨_, _, _, LeL.refl _, ?_⟩ | (refine fun (b : Bool) hb => ?_; cases b <;> (first | exact absurd hb (by decide) | exact Bool.noConfusion (show true = false from hb) | exact Bool.noConfusion (show false = true from hb) | skip)) | (refine fun (hl : _ ≤ MAXL) => ?_) | refine And.intro (a := I64 _) ?_ ?_ | refine And.intro (a := _ ≤ 140737488355328) ?_ ?_ | refine ⟨_, ⟨rfl, rfl⟩, ?_⟩ | refine ⟨_, And.intro (a := I64 _) ?_ ⟨rfl, rfl⟩, ?_⟩ | refine ⟨_, _, ⟨rfl, rfl⟩, ?_⟩ | refine ⟨_, (fun _ => ⟨rfl, rfl⟩), ?_⟩ | refine And.intro (a := chkPend _ _ _ _ _ _) ?_ ?_ | refine And.intro (a := chkPast _ _ _ _ _ _ _ _) ?_ ?_ | refine ⟨⟨rfl, rfl⟩, ?_⟩ | refine And.intro (And.intro rfl rfl) ?_ | refine ⟨True.intro, ?_⟩ | refine ⟨_, ⟨_, rfl, ?_, rfl, rfl, rfl⟩, ?_⟩ | refine ⟨_, rfl, ?_, rfl, ?_⟩ | refine ⟨_, (fun _ => rfl), rfl, ?_⟩ | refine ⟨(fun _ => rfl), ?_⟩ | refine ⟨rfl, ?_⟩ | refine Opt.a ?_ | refine ⟨Bool, V.lit, ?_⟩ | fail)
  rotate_left
  · have h : (60 : Int) < (N.length : Int) := of_decide_eq_true (by assumption)
    rw [if_pos (by omega)] at hK
    exact hK _ rfl
  have h60 : ¬ (60 : Int) < (N.length : Int) := of_decide_eq_false (by assumption)
  rw [if_neg (by omega)] at hK
  conv => whnf
  refine loop_live [1, 3, 16, 17] (σ := Nat × Int × Ents) (fun s => [(18, .int .i64 s.1), (4, .int .i64 s.2.1)]) (fun s => [.box [.sl nodeV N], .mp 173 4 .pair V.lit s.2.2]) (fun s => s.1 ≤ N.length ∧ nodesGo N s.1 (N.drop s.1) s.2.1 s.2.2 = nodesGo N 0 N 0 [] ∧ 0 ≤ s.2.1 ∧ s.2.1 ≤ 5 * s.1) (fun s => N.length - s.1) (0, 0, []) ?_
  conv => whnf
  refine ⟨(by (refine wk_auto ?_; refine Sel4.mk rfl rfl ?_ ?_ <;> (repeat' (first | exact True.intro | exact rfl | exact Or.inl rfl | exact Or.inr rfl | refine And.intro ?_ ?_ | fail)))), ⟨Nat.zero_le _, rfl, by decide, by decide⟩, fun s hs => ?_⟩
  obtain ⟨i, o, u⟩ := s
  obtain ⟨hi, hgo, ho1, ho2⟩ := hs
  dsimp only at hi hgo ho1 ho2
  repeat' (first | exact True.intro | refine ⟨_, LeL.refl _, ?_⟩ | refine ⟨_, _, _, LeL.refl _, ?_⟩ | (refine fun (b : Bool) hb => ?_; cases b <;> (first | exact absurd hb (by decide) | exact Bool.noConfusion (show true = false from hb) | exact Bool.noConfusion (show false = true from hb) | skip)) | (refine fun (hl : _ ≤ MAXL) => ?_) | refine And.intro (a := I64 _) ?_ ?_ | refine And.intro (a := _ ≤ 140737488355328) ?_ ?_ | refine ⟨_, ⟨rfl, rfl⟩, ?_⟩ | refine ⟨_, And.intro (a := I64 _) ?_ ⟨rfl, rfl⟩, ?_⟩ | refine ⟨_, _, ⟨rfl, rfl⟩, ?_⟩ | refine ⟨_, (fun _ => ⟨rfl, rfl⟩), ?_⟩ | refine And.intro (a := chkPend _ _ _ _ _ _) ?_ ?_ | refine And.intro (a := chkPast _ _ _ _ _ _ _ _) ?_ ?_ | refine ⟨⟨rfl, rfl⟩, ?_⟩ | refine And.intro (And.intro rfl rfl) ?_ | refine ⟨True.intro, ?_⟩ | refine ⟨_, ⟨_, rfl, ?_, rfl, rfl, rfl⟩, ?_⟩ | refine ⟨_, rfl, ?_, rfl, ?_⟩ | refine ⟨_, (fun _ => rfl), rfl, ?_⟩ | refine ⟨(fun _ => rfl), ?_⟩ | refine ⟨rfl, ?_⟩ | refine Opt.a ?_ | fail)
  · have hge : ¬ (i : Int) < (N.length : Int) := of_decide_eq_false (by assumption)
    have h0 : ¬ (N.length : Int) = 0 := of_decide_eq_false (by assumption)
    have h1 : (u.length : Int) = o := by simpa using (by assumption : (!decide ((u.length : Int) = o)) = false)
    conv => whnf
    refine hK _ (congrArg (V.int .i64) ?_)
    rw [← hgo, List.drop_eq_nil_of_le (by omega), nodesGo, if_neg (by omega)]
  · have hge : ¬ (i : Int) < (N.length : Int) := of_decide_eq_false (by assumption)
    have h1 : ¬ (u.length : Int) = o := by simpa using (by assumption : (!decide ((u.length : Int) = o)) = true)
    conv => whnf
    refine hK _ (congrArg (V.int .i64) ?_)
    rw [← hgo, List.drop_eq_nil_of_le (by omega), nodesGo, if_pos (.inr h1)]
  · have hge : ¬ (i : Int) < (N.length : Int) := of_decide_eq_false (by assumption)
    have h0 : (N.length : Int) = 0 := of_decide_eq_true (by assumption)
    conv => whnf
    refine hK _ (congrArg (V.int .i64) ?_)
    rw [← hgo, List.drop_eq_nil_of_le (by omega), nodesGo, if_pos (.inl (by omega))]
  · have h : (i : Int) < (N.length : Int) := of_decide_eq_true (by assumption)
    show i < N.length
    omega
  have hlt : i < N.length := by
    have h : (i : Int) < (N.length : Int) := of_decide_eq_true (by assumption)
    omega
  rw [nodesGo_at hlt] at hgo
  conv => whnf
  refine ⟨N[i], rfl, ?_⟩
  repeat' (first | exact True.intro | refine ⟨_, LeL.refl _, ?_⟩ | refine ⟨_, _, _, LeL.refl _, ?_⟩ | (refine fun (b : Bool) hb => ?_; cases b <;> (first | exact absurd hb (by decide) | exact Bool.noConfusion (show true = false from hb) | exact Bool.noConfusion (show false = true from hb) | skip)) | (refine fun (hl : _ ≤ MAXL) => ?_) | refine And.intro (a := I64 _) ?_ ?_ | refine And.intro (a := _ ≤ 140737488355328) ?_ ?_ | refine ⟨_, ⟨rfl, rfl⟩, ?_⟩ | refine ⟨_, And.intro (a := I64 _) ?_ ⟨rfl, rfl⟩, ?_⟩ | refine ⟨_, _, ⟨rfl, rfl⟩, ?_⟩ | refine ⟨_, (fun _ => ⟨rfl, rfl⟩), ?_⟩ | refine And.intro (a := chkPend _ _ _ _ _ _) ?_ ?_ | refine And.intro (a := chkPast _ _ _ _ _ _ _ _) ?_ ?_ | refine ⟨⟨rfl, rfl⟩, ?_⟩ | refine And.intro (And.intro rfl rfl) ?_ | refine ⟨True.intro, ?_⟩ | refine ⟨_, ⟨_, rfl, ?_, rfl, rfl, rfl⟩, ?_⟩ | refine ⟨_, rfl, ?_, rfl, ?_⟩ | refine ⟨_, (fun _ => rfl), rfl, ?_⟩ | refine ⟨(fun _ => rfl), ?_⟩ | refine ⟨rfl, ?_⟩ | refine Opt.a ?_ | fail)
  rotate_left
  · have hcn : ¬ checkN N[i] = 0 := by simpa using (by assumption : (!decide (checkN N[i] = 0)) = true)
    rw [if_pos hcn] at hgo
    conv => whnf
    exact hK _ (congrArg (V.int .i64) hgo)
  have hcn : checkN N[i] = 0 := by simpa using (by assumption : (!decide (checkN N[i] = 0)) = false)
  rw [if_neg (fun h => h hcn)] at hgo
  obtain ⟨ho3, ho4⟩ := outsN_bnd hcn
  conv => whnf
  refine loop_live [1, 3, 4, 5, 6, 16, 17, 18, 29, 30] (σ := Nat × Ents) (fun s => [(31, .int .i64 s.1)]) (fun s => [.box [.sl nodeV N], .mp 173 4 .pair V.lit s.2, .box (nodeV N[i]).cells]) (fun s => s.1 ≤ N[i].ins.length ∧ portsGo N i (N[i].ins.drop s.1) s.2 = portsGo N i N[i].ins u) (fun s => N[i].ins.length - s.1) (0, u) ?_
  conv => whnf
  refine ⟨(by (refine wk_auto ?_; refine Sel4.mk rfl rfl ?_ ?_ <;> (repeat' (first | exact True.intro | exact rfl | exact Or.inl rfl | exact Or.inr rfl | refine And.intro ?_ ?_ | fail)))), ⟨Nat.zero_le _, rfl⟩, fun s hs => ?_⟩
  obtain ⟨j, v⟩ := s
  obtain ⟨hj, hpg⟩ := hs
  dsimp only at hj hpg
  repeat' (first | exact True.intro | refine ⟨_, LeL.refl _, ?_⟩ | refine ⟨_, _, _, LeL.refl _, ?_⟩ | (refine fun (b : Bool) hb => ?_; cases b <;> (first | exact absurd hb (by decide) | exact Bool.noConfusion (show true = false from hb) | exact Bool.noConfusion (show false = true from hb) | skip)) | (refine fun (hl : _ ≤ MAXL) => ?_) | refine And.intro (a := I64 _) ?_ ?_ | refine And.intro (a := _ ≤ 140737488355328) ?_ ?_ | refine ⟨_, ⟨rfl, rfl⟩, ?_⟩ | refine ⟨_, And.intro (a := I64 _) ?_ ⟨rfl, rfl⟩, ?_⟩ | refine ⟨_, _, ⟨rfl, rfl⟩, ?_⟩ | refine ⟨_, (fun _ => ⟨rfl, rfl⟩), ?_⟩ | refine And.intro (a := chkPend _ _ _ _ _ _) ?_ ?_ | refine And.intro (a := chkPast _ _ _ _ _ _ _ _) ?_ ?_ | refine ⟨⟨rfl, rfl⟩, ?_⟩ | refine And.intro (And.intro rfl rfl) ?_ | refine ⟨True.intro, ?_⟩ | refine ⟨_, ⟨_, rfl, ?_, rfl, rfl, rfl⟩, ?_⟩ | refine ⟨_, rfl, ?_, rfl, ?_⟩ | refine ⟨_, (fun _ => rfl), rfl, ?_⟩ | refine ⟨(fun _ => rfl), ?_⟩ | refine ⟨rfl, ?_⟩ | refine Opt.a ?_ | fail)
  · unfold I64; omega
  · have hge : ¬ (j : Int) < (N[i].ins.length : Int) := of_decide_eq_false (by assumption)
    have h5 := (by assumption : (!decide (N[i].kind = 5) == decide ((i : Int) = (N.length : Int) - 1)) = false)
    have h6 : decide (N[i].kind = 5) = decide ((i : Int) = (N.length : Int) - 1) := by simpa using h5
    rw [List.drop_eq_nil_of_le (by omega), portsGo] at hpg
    rw [← hpg, if_neg (fun h => h rfl), if_neg (fun h => h h6)] at hgo
    conv => whnf
    refine ⟨N[i], rfl, ?_⟩
    repeat' (first | exact True.intro | refine ⟨_, LeL.refl _, ?_⟩ | refine ⟨_, _, _, LeL.refl _, ?_⟩ | (refine fun (b : Bool) hb => ?_; cases b <;> (first | exact absurd hb (by decide) | exact Bool.noConfusion (show true = false from hb) | exact Bool.noConfusion (show false = true from hb) | skip)) | (refine fun (hl : _ ≤ MAXL) => ?_) | refine And.intro (a := I64 _) ?_ ?_ | refine And.intro (a := _ ≤ 140737488355328) ?_ ?_ | refine ⟨_, ⟨rfl, rfl⟩, ?_⟩ | refine ⟨_, And.intro (a := I64 _) ?_ ⟨rfl, rfl⟩, ?_⟩ | refine ⟨_, _, ⟨rfl, rfl⟩, ?_⟩ | refine ⟨_, (fun _ => ⟨rfl, rfl⟩), ?_⟩ | refine And.intro (a := chkPend _ _ _ _ _ _) ?_ ?_ | refine And.intro (a := chkPast _ _ _ _ _ _ _ _) ?_ ?_ | refine ⟨⟨rfl, rfl⟩, ?_⟩ | refine And.intro (And.intro rfl rfl) ?_ | refine ⟨True.intro, ?_⟩ | refine ⟨_, ⟨_, rfl, ?_, rfl, rfl, rfl⟩, ?_⟩ | refine ⟨_, rfl, ?_, rfl, ?_⟩ | refine ⟨_, (fun _ => rfl), rfl, ?_⟩ | refine ⟨(fun _ => rfl), ?_⟩ | refine ⟨rfl, ?_⟩ | refine Opt.a ?_ | fail)
    · show I64 (o + outsN N[i])
      unfold I64; omega
    · show I64 ((i : Int) + 1)
      unfold I64; omega
    conv => whnf
    exact ⟨(i + 1, o + outsN N[i], v), (by (refine wk_auto ?_; refine Sel4.mk rfl rfl ?_ ?_ <;> (repeat' (first | exact True.intro | exact rfl | exact Or.inl rfl | exact Or.inr rfl | refine And.intro ?_ ?_ | fail)))), ⟨hlt, hgo, by dsimp only; omega, by dsimp only; omega⟩, by show N.length - (i + 1) < N.length - i; omega⟩
  · have hge : ¬ (j : Int) < (N[i].ins.length : Int) := of_decide_eq_false (by assumption)
    have h5 := (by assumption : (!decide (N[i].kind = 5) == decide ((i : Int) = (N.length : Int) - 1)) = true)
    have h6 : ¬ decide (N[i].kind = 5) = decide ((i : Int) = (N.length : Int) - 1) := by simpa using h5
    rw [List.drop_eq_nil_of_le (by omega), portsGo] at hpg
    rw [← hpg, if_neg (fun h => h rfl), if_pos h6] at hgo
    conv => whnf
    refine hK _ (congrArg (V.int .i64) ?_)
    exact hgo
  · have h : (j : Int) < (N[i].ins.length : Int) := of_decide_eq_true (by assumption)
    show j < N[i].ins.length
    omega
  have hjl : j < N[i].ins.length := by
    have h : (j : Int) < (N[i].ins.length : Int) := of_decide_eq_true (by assumption)
    omega
  rw [portsGo_at hjl] at hpg
  obtain ⟨p, hp⟩ : ∃ p, N[i].ins[j] = p := ⟨_, rfl⟩
  rw [hp] at hpg
  conv => whnf
  refine join_live [1, 3, 4, 5, 6, 9, 16, 17, 18, 29, 30, 31] (σ := Unit) (fun _ => []) (fun _ => [.box [.sl nodeV N], .mp 173 4 .pair V.lit v, .box (nodeV N[i]).cells, .box [.int .i64 p.node, .int .i64 p.out]]) (fun _ => ¬ (p.node < 0 ∨ (i : Int) ≤ p.node ∨ p.out < 0 ∨ outsN (N.getD p.node.toNat ⟨0, [], zCmd, 0, 0, []⟩) ≤ p.out)) ?_
  conv => whnf
  refine ⟨?_, fun _ hok => ?_⟩
  · rw [hp]
    repeat' (first | exact True.intro | refine ⟨_, LeL.refl _, ?_⟩ | refine ⟨_, _, _, LeL.refl _, ?_⟩ | (refine fun (b : Bool) hb => ?_; cases b <;> (first | exact absurd hb (by decide) | exact Bool.noConfusion (show true = false from hb) | exact Bool.noConfusion (show false = true from hb) | skip)) | (refine fun (hl : _ ≤ MAXL) => ?_) | refine And.intro (a := I64 _) ?_ ?_ | refine And.intro (a := _ ≤ 140737488355328) ?_ ?_ | refine ⟨_, ⟨rfl, rfl⟩, ?_⟩ | refine ⟨_, And.intro (a := I64 _) ?_ ⟨rfl, rfl⟩, ?_⟩ | refine ⟨_, _, ⟨rfl, rfl⟩, ?_⟩ | refine ⟨_, (fun _ => ⟨rfl, rfl⟩), ?_⟩ | refine And.intro (a := chkPend _ _ _ _ _ _) ?_ ?_ | refine And.intro (a := chkPast _ _ _ _ _ _ _ _) ?_ ?_ | refine ⟨⟨rfl, rfl⟩, ?_⟩ | refine And.intro (And.intro rfl rfl) ?_ | refine ⟨True.intro, ?_⟩ | refine ⟨_, ⟨_, rfl, ?_, rfl, rfl, rfl⟩, ?_⟩ | refine ⟨_, rfl, ?_, rfl, ?_⟩ | refine ⟨_, (fun _ => rfl), rfl, ?_⟩ | refine ⟨(fun _ => rfl), ?_⟩ | refine ⟨rfl, ?_⟩ | refine Opt.a ?_ | fail)
    · have h1 : ¬ p.node < 0 := of_decide_eq_false (by assumption)
      have h2 : ¬ (i : Int) ≤ p.node := of_decide_eq_false (by assumption)
      have h3 : ¬ p.out < 0 := of_decide_eq_false (by assumption)
      obtain ⟨k, hk⟩ : ∃ k : Nat, p.node = k := ⟨p.node.toNat, by omega⟩
      have hkN : k < N.length := by omega
      have hgk : N.getD p.node.toNat ⟨0, [], zCmd, 0, 0, []⟩ = N[k] := by
        rw [hk, Int.toNat_natCast, List.getD_eq_getElem?_getD, List.getElem?_eq_getElem hkN]
        rfl
      conv => whnf
      refine ⟨_, ⟨k, hk, hkN, rfl, rfl, rfl⟩, ?_⟩
      repeat' (first | exact True.intro | refine ⟨_, LeL.refl _, ?_⟩ | refine ⟨_, _, _, LeL.refl _, ?_⟩ | (refine fun (b : Bool) hb => ?_; cases b <;> (first | exact absurd hb (by decide) | exact Bool.noConfusion (show true = false from hb) | exact Bool.noConfusion (show false = true from hb) | skip)) | (refine fun (hl : _ ≤ MAXL) => ?_) | refine And.intro (a := I64 _) ?_ ?_ | refine And.intro (a := _ ≤ 140737488355328) ?_ ?_ | refine ⟨_, ⟨rfl, rfl⟩, ?_⟩ | refine ⟨_, And.intro (a := I64 _) ?_ ⟨rfl, rfl⟩, ?_⟩ | refine ⟨_, _, ⟨rfl, rfl⟩, ?_⟩ | refine ⟨_, (fun _ => ⟨rfl, rfl⟩), ?_⟩ | refine And.intro (a := chkPend _ _ _ _ _ _) ?_ ?_ | refine And.intro (a := chkPast _ _ _ _ _ _ _ _) ?_ ?_ | refine ⟨⟨rfl, rfl⟩, ?_⟩ | refine And.intro (And.intro rfl rfl) ?_ | refine ⟨True.intro, ?_⟩ | refine ⟨_, ⟨_, rfl, ?_, rfl, rfl, rfl⟩, ?_⟩ | refine ⟨_, rfl, ?_, rfl, ?_⟩ | refine ⟨_, (fun _ => rfl), rfl, ?_⟩ | refine ⟨(fun _ => rfl), ?_⟩ | refine ⟨rfl, ?_⟩ | refine Opt.a ?_ | fail)
      apply Exists.intro
      apply And.intro
      · refine ⟨N[k], rfl, ?_⟩
        exact ⟨rfl, rfl⟩
      repeat' (first | exact True.intro | refine ⟨_, LeL.refl _, ?_⟩ | refine ⟨_, _, _, LeL.refl _, ?_⟩ | (refine fun (b : Bool) hb => ?_; cases b <;> (first | exact absurd hb (by decide) | exact Bool.noConfusion (show true = false from hb) | exact Bool.noConfusion (show false = true from hb) | skip)) | (refine fun (hl : _ ≤ MAXL) => ?_) | refine And.intro (a := I64 _) ?_ ?_ | refine And.intro (a := _ ≤ 140737488355328) ?_ ?_ | refine ⟨_, ⟨rfl, rfl⟩, ?_⟩ | refine ⟨_, And.intro (a := I64 _) ?_ ⟨rfl, rfl⟩, ?_⟩ | refine ⟨_, _, ⟨rfl, rfl⟩, ?_⟩ | refine ⟨_, (fun _ => ⟨rfl, rfl⟩), ?_⟩ | refine And.intro (a := chkPend _ _ _ _ _ _) ?_ ?_ | refine And.intro (a := chkPast _ _ _ _ _ _ _ _) ?_ ?_ | refine ⟨⟨rfl, rfl⟩, ?_⟩ | refine And.intro (And.intro rfl rfl) ?_ | refine ⟨True.intro, ?_⟩ | refine ⟨_, ⟨_, rfl, ?_, rfl, rfl, rfl⟩, ?_⟩ | refine ⟨_, rfl, ?_, rfl, ?_⟩ | refine ⟨_, (fun _ => rfl), rfl, ?_⟩ | refine ⟨(fun _ => rfl), ?_⟩ | refine ⟨rfl, ?_⟩ | refine Opt.a ?_ | fail)
      · have h4 : ¬ outsN N[k] ≤ p.out := of_decide_eq_false (by assumption)
        conv => whnf
        exact ⟨(), (by (refine wk_auto ?_; refine Sel4.mk rfl rfl ?_ ?_ <;> (repeat' (first | exact True.intro | exact rfl | exact Or.inl rfl | exact Or.inr rfl | refine And.intro ?_ ?_ | fail)))), by rw [hgk]; omega⟩
      · have h4 : outsN N[k] ≤ p.out := of_decide_eq_true (by assumption)
        rw [hgk, if_pos (by omega)] at hpg
        rw [← hpg, if_pos (show (5 : Int) ≠ 0 by decide)] at hgo
        conv => whnf
        refine hK _ (congrArg (V.int .i64) ?_)
        exact hgo
    · have h4 : p.out < 0 := of_decide_eq_true (by assumption)
      rw [if_pos (by omega)] at hpg
      rw [← hpg, if_pos (show (5 : Int) ≠ 0 by decide)] at hgo
      conv => whnf
      refine hK _ (congrArg (V.int .i64) ?_)
      exact hgo
    · have h4 : (i : Int) ≤ p.node := of_decide_eq_true (by assumption)
      rw [if_pos (by omega)] at hpg
      rw [← hpg, if_pos (show (5 : Int) ≠ 0 by decide)] at hgo
      conv => whnf
      refine hK _ (congrArg (V.int .i64) ?_)
      exact hgo
    · have h4 : p.node < 0 := of_decide_eq_true (by assumption)
      rw [if_pos (by omega)] at hpg
      rw [← hpg, if_pos (show (5 : Int) ≠ 0 by decide)] at hgo
      conv => whnf
      refine hK _ (congrArg (V.int .i64) ?_)
      exact hgo
  · rw [if_neg hok] at hpg
    obtain ⟨q, hq⟩ : ∃ q, mget false v [p.node, p.out] = q := ⟨_, rfl⟩
    rw [hq] at hpg
    conv => whnf
    refine ⟨false, rfl, ?_⟩
    conv =>
      arg 1
      rw [hq]
    cases q
    · rw [if_neg (by decide)] at hpg
      repeat' (first | exact True.intro | refine ⟨_, LeL.refl _, ?_⟩ | refine ⟨_, _, _, LeL.refl _, ?_⟩ | (refine fun (b : Bool) hb => ?_; cases b <;> (first | exact absurd hb (by decide) | exact Bool.noConfusion (show true = false from hb) | exact Bool.noConfusion (show false = true from hb) | skip)) | (refine fun (hl : _ ≤ MAXL) => ?_) | refine And.intro (a := I64 _) ?_ ?_ | refine And.intro (a := _ ≤ 140737488355328) ?_ ?_ | refine ⟨_, ⟨rfl, rfl⟩, ?_⟩ | refine ⟨_, And.intro (a := I64 _) ?_ ⟨rfl, rfl⟩, ?_⟩ | refine ⟨_, _, ⟨rfl, rfl⟩, ?_⟩ | refine ⟨_, (fun _ => ⟨rfl, rfl⟩), ?_⟩ | refine And.intro (a := chkPend _ _ _ _ _ _) ?_ ?_ | refine And.intro (a := chkPast _ _ _ _ _ _ _ _) ?_ ?_ | refine ⟨⟨rfl, rfl⟩, ?_⟩ | refine And.intro (And.intro rfl rfl) ?_ | refine ⟨True.intro, ?_⟩ | refine ⟨_, ⟨_, rfl, ?_, rfl, rfl, rfl⟩, ?_⟩ | refine ⟨_, rfl, ?_, rfl, ?_⟩ | refine ⟨_, (fun _ => rfl), rfl, ?_⟩ | refine ⟨(fun _ => rfl), ?_⟩ | refine ⟨rfl, ?_⟩ | refine Opt.a ?_ | fail)
      · rfl
      · have hm := (by assumption : N[i].ins.length ≤ MAXL)
        unfold MAXL at hm
        unfold I64; (try dsimp only); omega
      conv => whnf
      exact ⟨(j + 1, mput v [p.node, p.out] true), (by (refine wk_auto ?_; refine Sel4.mk rfl rfl ?_ ?_ <;> (repeat' (first | exact True.intro | exact rfl | exact Or.inl rfl | exact Or.inr rfl | refine And.intro ?_ ?_ | fail)))), ⟨hjl, hpg⟩, by show N[i].ins.length - (j + 1) < N[i].ins.length - j; omega⟩
    · rw [if_pos rfl] at hpg
      rw [← hpg, if_pos (show (6 : Int) ≠ 0 by decide)] at hgo
      conv => whnf
      refine hK _ (congrArg (V.int .i64) ?_)
      exact hgo
end Gv
namespace Gv
variable [Glob] [Laid]
theorem cfiles_ca : callable Tryz.prog 89 = true := by kernel_rfl
def cfiles_S : Spec := fun args K => ∃ l : List FileS, args = [.sl fileV l] ∧ K (.int .i64 (checkFiles l))
noncomputable def cfiles_lib : List (Nat × Spec) := [(32, word_S)]
noncomputable def cfiles_fns : List (Nat × FnI) := []
noncomputable def cfiles_prims : List (Nat × PSpec) := []
theorem cfiles_E : EnvOK ⟨Tryz.prog, tys, cfiles_lib, cfiles_fns, cfiles_prims, []⟩ := env_ok mixed0 tys0 (.cons word_ca word_ok .nil) .nil .nil rfl
set_option maxHeartbeats 8000000 in
theorem cfiles_ok : Pure Tryz.prog 89 cfiles_S := by
  refine pure_by cfiles_E 6 (fi := {fn := Tryz.f89, hooks := [], draws := [(10, [0, 1, 3, 7, 7, 23, 63, 127, 255, 7, 519, 2047, 4095])]}) ⟨Tryz.func89, by kernel_rfl, by kernel_rfl⟩ ?_
  rintro _ K ⟨l, rfl, hK⟩
  replace hK : ∀ r, r = .int .i64 (checkFiles l) → K r := fun r h => h ▸ hK
  repeat' (first | exact True.intro | refine ⟨_, LeL.refl _, ?_⟩ | refine ⟨_, _, _, LeL.refl _, ?_⟩ | (refine fun (b : Bool) hb => ?_; cases b <;> (first | exact absurd hb (by decide) | exact Bool.noConfusion (show true = false from hb) | exact Bool.noConfusion (show false = true from hb) | skip)) | (refine fun (hl : _ ≤ MAXL) => ?_) | refine And.intro (a := I64 _) ?_ ?_ | refine And.intro (a := _ ≤ 140737488355328) ?_ ?_ | refine ⟨_, ⟨rfl, rfl⟩, ?_⟩ | refine ⟨_, And.intro (a := I64 _) ?_ ⟨rfl, rfl⟩, ?_⟩ | refine ⟨_, _, ⟨rfl, rfl⟩, ?_⟩ | refine ⟨_, (fun _ => ⟨rfl, rfl⟩), ?_⟩ | refine And.intro (a := chkPend _ _ _ _ _ _) ?_ ?_ | refine And.intro (a := chkPast _ _ _ _ _ _ _ _) ?_ ?_ | refine ⟨⟨rfl, rfl⟩, ?_⟩ | refine And.intro (And.intro rfl rfl) ?_ | refine ⟨True.intro, ?_⟩ | refine ⟨_, ⟨_, rfl, ?_, rfl, rfl, rfl⟩, ?_⟩ | refine ⟨_, rfl, ?_, rfl, ?_⟩ | refine ⟨_, (fun _ => rfl), rfl, ?_⟩ | refine ⟨(fun _ => rfl), ?_⟩ | refine ⟨rfl, ?_⟩ | refine Opt.a ?_ | fail)
  rotate_left
  · refine hK _ ?_
    have h := of_decide_eq_true (by assumption : decide ((12 : Int) < (l.length : Int)) = true)
    unfold checkFiles
    rw [if_pos (by omega)]
  have h12 : ¬ 12 < l.length := by
    have h := of_decide_eq_false (by assumption : decide ((12 : Int) < (l.length : Int)) = false)
    omega
  have hcf : checkFiles l = filesGo none l := by unfold checkFiles; rw [if_neg h12]
  rw [hcf] at hK
  conv => whnf
  refine loop_live [0, 8, 9] (σ := Nat) (fun i => [(10, .int .i64 i)]) (fun i => []) (fun i => i ≤ l.length ∧ filesGo (prevN l i) (l.drop i) = filesGo none l) (fun i => l.length - i) 0 ?_
  conv => whnf
  refine ⟨(by (refine wk_auto ?_; refine Sel4.mk rfl rfl ?_ ?_ <;> (repeat' (first | exact True.intro | exact rfl | exact Or.inl rfl | exact Or.inr rfl | refine And.intro ?_ ?_ | fail)))), ⟨Nat.zero_le _, rfl⟩, fun i hi => ?_⟩
  obtain ⟨hi, hg⟩ := hi
  repeat' (first | exact True.intro | refine ⟨_, LeL.refl _, ?_⟩ | refine ⟨_, _, _, LeL.refl _, ?_⟩ | (refine fun (b : Bool) hb => ?_; cases b <;> (first | exact absurd hb (by decide) | exact Bool.noConfusion (show true = false from hb) | exact Bool.noConfusion (show false = true from hb) | skip)) | (refine fun (hl : _ ≤ MAXL) => ?_) | refine And.intro (a := I64 _) ?_ ?_ | refine And.intro (a := _ ≤ 140737488355328) ?_ ?_ | refine ⟨_, ⟨rfl, rfl⟩, ?_⟩ | refine ⟨_, And.intro (a := I64 _) ?_ ⟨rfl, rfl⟩, ?_⟩ | refine ⟨_, _, ⟨rfl, rfl⟩, ?_⟩ | refine ⟨_, (fun _ => ⟨rfl, rfl⟩), ?_⟩ | refine And.intro (a := chkPend _ _ _ _ _ _) ?_ ?_ | refine And.intro (a := chkPast _ _ _ _ _ _ _ _) ?_ ?_ | refine ⟨⟨rfl, rfl⟩, ?_⟩ | refine And.intro (And.intro rfl rfl) ?_ | refine ⟨True.intro, ?_⟩ | refine ⟨_, ⟨_, rfl, ?_, rfl, rfl, rfl⟩, ?_⟩ | refine ⟨_, rfl, ?_, rfl, ?_⟩ | refine ⟨_, (fun _ => rfl), rfl, ?_⟩ | refine ⟨(fun _ => rfl), ?_⟩ | refine ⟨rfl, ?_⟩ | refine Opt.a ?_ | fail)
  · have h := of_decide_eq_false (by assumption : decide ((i : Int) < (l.length : Int)) = false)
    have e : l.drop i = [] := List.drop_eq_nil_of_le (by omega)
    rw [e] at hg
    conv => whnf
    refine hK _ ?_
    rw [← hg]
    rfl
  · have h := of_decide_eq_true (by assumption : decide ((i : Int) < (l.length : Int)) = true)
    show i < l.length
    omega
  have hlt : i < l.length := by
    have h := of_decide_eq_true (by assumption : decide ((i : Int) < (l.length : Int)) = true)
    omega
  rw [filesGo_at hlt] at hg
  refine ⟨l[i].name, rfl, ?_⟩
  repeat' (first | exact True.intro | refine ⟨_, LeL.refl _, ?_⟩ | refine ⟨_, _, _, LeL.refl _, ?_⟩ | (refine fun (b : Bool) hb => ?_; cases b <;> (first | exact absurd hb (by decide) | exact Bool.noConfusion (show true = false from hb) | exact Bool.noConfusion (show false = true from hb) | skip)) | (refine fun (hl : _ ≤ MAXL) => ?_) | refine And.intro (a := I64 _) ?_ ?_ | refine And.intro (a := _ ≤ 140737488355328) ?_ ?_ | refine ⟨_, ⟨rfl, rfl⟩, ?_⟩ | refine ⟨_, And.intro (a := I64 _) ?_ ⟨rfl, rfl⟩, ?_⟩ | refine ⟨_, _, ⟨rfl, rfl⟩, ?_⟩ | refine ⟨_, (fun _ => ⟨rfl, rfl⟩), ?_⟩ | refine And.intro (a := chkPend _ _ _ _ _ _) ?_ ?_ | refine And.intro (a := chkPast _ _ _ _ _ _ _ _) ?_ ?_ | refine ⟨⟨rfl, rfl⟩, ?_⟩ | refine And.intro (And.intro rfl rfl) ?_ | refine ⟨True.intro, ?_⟩ | refine ⟨_, ⟨_, rfl, ?_, rfl, rfl, rfl⟩, ?_⟩ | refine ⟨_, rfl, ?_, rfl, ?_⟩ | refine ⟨_, (fun _ => rfl), rfl, ?_⟩ | refine ⟨(fun _ => rfl), ?_⟩ | refine ⟨rfl, ?_⟩ | refine Opt.a ?_ | fail)
  · unfold I64; omega
  · have h1 : isWord l[i].name = true := by
      have h : (!isWord l[i].name) = false := by assumption
      simpa using h
    have h2 : ¬ (4000 : Int) < (l[i].b.length : Int) := of_decide_eq_false (by assumption)
    have h3 : ¬ (0 : Int) < (i : Int) := of_decide_eq_false (by assumption)
    have e0 : i = 0 := by omega
    have h4 : notRise (prevN l i) l[i].name = false := by
      have : prevN l i = none := by unfold prevN; rw [if_pos e0]
      rw [this]; rfl
    rw [if_neg (by rw [h1]; decide), if_neg (by omega), if_neg (by rw [h4]; decide)] at hg
    exact ⟨i + 1, (by (refine wk_auto ?_; refine Sel4.mk rfl rfl ?_ ?_ <;> (repeat' (first | exact True.intro | exact rfl | exact Or.inl rfl | exact Or.inr rfl | refine And.intro ?_ ?_ | fail)))), ⟨hlt, hg⟩, by omega⟩
  · unfold I64; omega
  · have h1 : isWord l[i].name = true := by
      have h : (!isWord l[i].name) = false := by assumption
      simpa using h
    have h2 : ¬ (4000 : Int) < (l[i].b.length : Int) := of_decide_eq_false (by assumption)
    have h3 : (0 : Int) < (i : Int) := of_decide_eq_true (by assumption)
    have hp : prevN l i = some (l[i - 1]'(by omega)).name := by
      unfold prevN
      rw [if_neg (by omega), List.getD_eq_getElem?_getD, List.getElem?_eq_getElem (by omega)]
      rfl
    rw [if_neg (by rw [h1]; decide), if_neg (by omega), hp] at hg
    conv => whnf
    refine ⟨_, ⟨i - 1, by omega, by omega, rfl, rfl, rfl⟩, ?_⟩
    repeat' (first | exact True.intro | refine ⟨_, LeL.refl _, ?_⟩ | refine ⟨_, _, _, LeL.refl _, ?_⟩ | (refine fun (b : Bool) hb => ?_; cases b <;> (first | exact absurd hb (by decide) | exact Bool.noConfusion (show true = false from hb) | exact Bool.noConfusion (show false = true from hb) | skip)) | (refine fun (hl : _ ≤ MAXL) => ?_) | refine And.intro (a := I64 _) ?_ ?_ | refine And.intro (a := _ ≤ 140737488355328) ?_ ?_ | refine ⟨_, ⟨rfl, rfl⟩, ?_⟩ | refine ⟨_, And.intro (a := I64 _) ?_ ⟨rfl, rfl⟩, ?_⟩ | refine ⟨_, _, ⟨rfl, rfl⟩, ?_⟩ | refine ⟨_, (fun _ => ⟨rfl, rfl⟩), ?_⟩ | refine And.intro (a := chkPend _ _ _ _ _ _) ?_ ?_ | refine And.intro (a := chkPast _ _ _ _ _ _ _ _) ?_ ?_ | refine ⟨⟨rfl, rfl⟩, ?_⟩ | refine And.intro (And.intro rfl rfl) ?_ | refine ⟨True.intro, ?_⟩ | refine ⟨_, ⟨_, rfl, ?_, rfl, rfl, rfl⟩, ?_⟩ | refine ⟨_, rfl, ?_, rfl, ?_⟩ | refine ⟨_, (fun _ => rfl), rfl, ?_⟩ | refine ⟨(fun _ => rfl), ?_⟩ | refine ⟨rfl, ?_⟩ | refine Opt.a ?_ | fail)
    · unfold I64; omega
    · have h4 : notRise (some (l[i - 1]'(by omega)).name) l[i].name = false := by
        have h : (!Op.bytesLess (l[i - 1]'(by omega)).name l[i].name) = false := by assumption
        exact h
      rw [if_neg (by rw [h4]; decide)] at hg
      exact ⟨i + 1, (by (refine wk_auto ?_; refine Sel4.mk rfl rfl ?_ ?_ <;> (repeat' (first | exact True.intro | exact rfl | exact Or.inl rfl | exact Or.inr rfl | refine And.intro ?_ ?_ | fail)))), ⟨hlt, hg⟩, by omega⟩
    · have h4 : notRise (some (l[i - 1]'(by omega)).name) l[i].name = true := by
        have h : (!Op.bytesLess (l[i - 1]'(by omega)).name l[i].name) = true := by assumption
        exact h
      rw [if_pos h4] at hg
      conv => whnf
      exact hK _ (by rw [← hg])
  · have h1 : isWord l[i].name = true := by
      have h : (!isWord l[i].name) = false := by assumption
      simpa using h
    have h2 : (4000 : Int) < (l[i].b.length : Int) := of_decide_eq_true (by assumption)
    rw [if_neg (by rw [h1]; decide), if_pos (by omega)] at hg
    conv => whnf
    exact hK _ (by rw [← hg])
  · have h1 : isWord l[i].name = false := by
      have h : (!isWord l[i].name) = true := by assumption
      simpa using h
    rw [if_pos h1] at hg
    conv => whnf
    exact hK _ (by rw [← hg])
end Gv
namespace Gv
variable [Glob] [Laid]
theorem placeF_ca : callable Tryz.prog 125 = true := by kernel_rfl
def placeF_S : Spec := fun args K => ∃ (l : List FileS) (n : Bs), args = [.sl fileV l, .str n] ∧ K (.tup [.int .i64 (placeI l n : Nat), .bool (isAt l n)])
noncomputable def placeF_lib : List (Nat × Spec) := []
noncomputable def placeF_fns : List (Nat × FnI) := [(128, {fn := Tryz.f128, hooks := [], draws := []}), (181, {fn := Tryz.f181, hooks := [], draws := []})]
noncomputable def placeF_prims : List (Nat × PSpec) := []
theorem placeF_E : EnvOK ⟨Tryz.prog, tys, placeF_lib, placeF_fns, placeF_prims, []⟩ := env_ok mixed0 tys0 .nil (.cons (by kernel_rfl) ⟨Tryz.func128, by kernel_rfl, by kernel_rfl⟩ (.cons (by kernel_rfl) ⟨Tryz.func181, by kernel_rfl, by kernel_rfl⟩ .nil)) .nil rfl
set_option maxHeartbeats 8000000 in
theorem placeF_ok : Pure Tryz.prog 125 placeF_S := by
  refine pure_by placeF_E 6 (fi := {fn := Tryz.f125, hooks := [], draws := [(4, [0, 0, 0, 6, 14, 30, 0, 126, 1, 511])]}) ⟨Tryz.func125, by kernel_rfl, by kernel_rfl⟩ ?_
  rintro _ K ⟨l, n, rfl, hK⟩
  replace hK : ∀ r, r = .tup [.int .i64 (placeI l n : Nat), .bool (isAt l n)] → K r := fun r h => h ▸ hK
  repeat' (first | exact True.intro | refine ⟨_, LeL.refl _, ?_⟩ | refine ⟨_, _, _, LeL.refl _, ?_⟩ | (refine fun (b : Bool) hb => ?_; cases b <;> (first | exact absurd hb (by decide) | exact Bool.noConfusion (show true = false from hb) | exact Bool.noConfusion (show false = true from hb) | skip)) | (refine fun (hl : _ ≤ MAXL) => ?_) | refine And.intro (a := I64 _) ?_ ?_ | refine And.intro (a := _ ≤ 140737488355328) ?_ ?_ | refine ⟨_, ⟨rfl, rfl⟩, ?_⟩ | refine ⟨_, And.intro (a := I64 _) ?_ ⟨rfl, rfl⟩, ?_⟩ | refine ⟨_, _, ⟨rfl, rfl⟩, ?_⟩ | refine ⟨_, (fun _ => ⟨rfl, rfl⟩), ?_⟩ | refine And.intro (a := chkPend _ _ _ _ _ _) ?_ ?_ | refine And.intro (a := chkPast _ _ _ _ _ _ _ _) ?_ ?_ | refine ⟨⟨rfl, rfl⟩, ?_⟩ | refine And.intro (And.intro rfl rfl) ?_ | refine ⟨True.intro, ?_⟩ | refine ⟨_, ⟨_, rfl, ?_, rfl, rfl, rfl⟩, ?_⟩ | refine ⟨_, rfl, ?_, rfl, ?_⟩ | refine ⟨_, (fun _ => rfl), rfl, ?_⟩ | refine ⟨(fun _ => rfl), ?_⟩ | refine ⟨rfl, ?_⟩ | refine Opt.a ?_ | fail)
  conv => whnf
  refine loop_live [0, 1, 7] (σ := Nat) (fun i => [(8, .int .i64 i)]) (fun i => [.box [.str n]]) (fun i => i ≤ l.length ∧ ∀ j (h : j < l.length), j < i → notLess n l[j] = false) (fun i => l.length - i) 0 ?_
  conv => whnf
  refine ⟨(by (refine wk_auto ?_; refine Sel4.mk rfl rfl ?_ ?_ <;> (repeat' (first | exact True.intro | exact rfl | exact Or.inl rfl | exact Or.inr rfl | refine And.intro ?_ ?_ | fail)))), ⟨Nat.zero_le _, fun j h h' => by omega⟩, fun i hi => ?_⟩
  obtain ⟨hi, hn⟩ := hi
  repeat' (first | exact True.intro | refine ⟨_, LeL.refl _, ?_⟩ | refine ⟨_, _, _, LeL.refl _, ?_⟩ | (refine fun (b : Bool) hb => ?_; cases b <;> (first | exact absurd hb (by decide) | exact Bool.noConfusion (show true = false from hb) | exact Bool.noConfusion (show false = true from hb) | skip)) | (refine fun (hl : _ ≤ MAXL) => ?_) | refine And.intro (a := I64 _) ?_ ?_ | refine And.intro (a := _ ≤ 140737488355328) ?_ ?_ | refine ⟨_, ⟨rfl, rfl⟩, ?_⟩ | refine ⟨_, And.intro (a := I64 _) ?_ ⟨rfl, rfl⟩, ?_⟩ | refine ⟨_, _, ⟨rfl, rfl⟩, ?_⟩ | refine ⟨_, (fun _ => ⟨rfl, rfl⟩), ?_⟩ | refine And.intro (a := chkPend _ _ _ _ _ _) ?_ ?_ | refine And.intro (a := chkPast _ _ _ _ _ _ _ _) ?_ ?_ | refine ⟨⟨rfl, rfl⟩, ?_⟩ | refine And.intro (And.intro rfl rfl) ?_ | refine ⟨True.intro, ?_⟩ | refine ⟨_, ⟨_, rfl, ?_, rfl, rfl, rfl⟩, ?_⟩ | refine ⟨_, rfl, ?_, rfl, ?_⟩ | refine ⟨_, (fun _ => rfl), rfl, ?_⟩ | refine ⟨(fun _ => rfl), ?_⟩ | refine ⟨rfl, ?_⟩ | refine Opt.a ?_ | fail)
  · have hge : ¬ (i : Int) < (l.length : Int) := of_decide_eq_false (by assumption)
    have ei : i = l.length := by omega
    have hp : placeI l n = l.length := place_end fun j hj => hn j hj (by omega)
    repeat' (first | exact True.intro | refine ⟨_, LeL.refl _, ?_⟩ | refine ⟨_, _, _, LeL.refl _, ?_⟩ | (refine fun (b : Bool) hb => ?_; cases b <;> (first | exact absurd hb (by decide) | exact Bool.noConfusion (show true = false from hb) | exact Bool.noConfusion (show false = true from hb) | skip)) | (refine fun (hl : _ ≤ MAXL) => ?_) | refine And.intro (a := I64 _) ?_ ?_ | refine And.intro (a := _ ≤ 140737488355328) ?_ ?_ | refine ⟨_, ⟨rfl, rfl⟩, ?_⟩ | refine ⟨_, And.intro (a := I64 _) ?_ ⟨rfl, rfl⟩, ?_⟩ | refine ⟨_, _, ⟨rfl, rfl⟩, ?_⟩ | refine ⟨_, (fun _ => ⟨rfl, rfl⟩), ?_⟩ | refine And.intro (a := chkPend _ _ _ _ _ _) ?_ ?_ | refine And.intro (a := chkPast _ _ _ _ _ _ _ _) ?_ ?_ | refine ⟨⟨rfl, rfl⟩, ?_⟩ | refine And.intro (And.intro rfl rfl) ?_ | refine ⟨True.intro, ?_⟩ | refine ⟨_, ⟨_, rfl, ?_, rfl, rfl, rfl⟩, ?_⟩ | refine ⟨_, rfl, ?_, rfl, ?_⟩ | refine ⟨_, (fun _ => rfl), rfl, ?_⟩ | refine ⟨(fun _ => rfl), ?_⟩ | refine ⟨rfl, ?_⟩ | refine Opt.a ?_ | fail)
    refine hK _ ?_
    unfold isAt
    rw [hp, List.getElem?_eq_none (Nat.le_refl _)]
  · have h := of_decide_eq_true (by assumption : decide ((i : Int) < (l.length : Int)) = true)
    show i < l.length
    omega
  · have hl0 : l.length ≤ MAXL := by assumption
    unfold MAXL at hl0
    have h := of_decide_eq_true (by assumption : decide ((i : Int) < (l.length : Int)) = true)
    unfold I64; omega
  · have hlt : i < l.length := by
      have h := of_decide_eq_true (by assumption : decide ((i : Int) < (l.length : Int)) = true)
      omega
    have hx : notLess n l[i] = false := by assumption
    refine ⟨i + 1, (by (refine wk_auto ?_; refine Sel4.mk rfl rfl ?_ ?_ <;> (repeat' (first | exact True.intro | exact rfl | exact Or.inl rfl | exact Or.inr rfl | refine And.intro ?_ ?_ | fail)))), ⟨hlt, fun j hj hj2 => ?_⟩, by omega⟩
    rcases Nat.lt_or_ge j i with h | h
    · exact hn j hj h
    · have : j = i := by omega
      subst this
      exact hx
  · have h := of_decide_eq_true (by assumption : decide ((i : Int) < (l.length : Int)) = true)
    show i < l.length
    omega
  · have hlt : i < l.length := by
      have h := of_decide_eq_true (by assumption : decide ((i : Int) < (l.length : Int)) = true)
      omega
    have hx : notLess n l[i] = true := by assumption
    have hp : placeI l n = i := place_at hlt hx hn
    repeat' (first | exact True.intro | refine ⟨_, LeL.refl _, ?_⟩ | refine ⟨_, _, _, LeL.refl _, ?_⟩ | (refine fun (b : Bool) hb => ?_; cases b <;> (first | exact absurd hb (by decide) | exact Bool.noConfusion (show true = false from hb) | exact Bool.noConfusion (show false = true from hb) | skip)) | (refine fun (hl : _ ≤ MAXL) => ?_) | refine And.intro (a := I64 _) ?_ ?_ | refine And.intro (a := _ ≤ 140737488355328) ?_ ?_ | refine ⟨_, ⟨rfl, rfl⟩, ?_⟩ | refine ⟨_, And.intro (a := I64 _) ?_ ⟨rfl, rfl⟩, ?_⟩ | refine ⟨_, _, ⟨rfl, rfl⟩, ?_⟩ | refine ⟨_, (fun _ => ⟨rfl, rfl⟩), ?_⟩ | refine And.intro (a := chkPend _ _ _ _ _ _) ?_ ?_ | refine And.intro (a := chkPast _ _ _ _ _ _ _ _) ?_ ?_ | refine ⟨⟨rfl, rfl⟩, ?_⟩ | refine And.intro (And.intro rfl rfl) ?_ | refine ⟨True.intro, ?_⟩ | refine ⟨_, ⟨_, rfl, ?_, rfl, rfl, rfl⟩, ?_⟩ | refine ⟨_, rfl, ?_, rfl, ?_⟩ | refine ⟨_, (fun _ => rfl), rfl, ?_⟩ | refine ⟨(fun _ => rfl), ?_⟩ | refine ⟨rfl, ?_⟩ | refine Opt.a ?_ | fail)
    refine hK _ ?_
    unfold isAt
    rw [hp, List.getElem?_eq_getElem hlt]
end Gv
namespace Gv
variable [Glob] [Laid]
theorem cloneB_ca : callable Tryz.prog 126 = true := by kernel_rfl
def cloneB_S : Spec := fun args K => ∃ a : List UInt8, args = [.sl byteV a] ∧ a.length ≤ 1000000 ∧ K (.sl byteV a)
noncomputable def cloneB_lib : List (Nat × Spec) := []
noncomputable def cloneB_fns : List (Nat × FnI) := []
noncomputable def cloneB_prims : List (Nat × PSpec) := []
theorem cloneB_E : EnvOK ⟨Tryz.prog, tys, cloneB_lib, cloneB_fns, cloneB_prims, []⟩ := env_ok mixed0 tys0 .nil .nil .nil rfl
set_option maxHeartbeats 4000000 in
theorem cloneB_ok : Pure Tryz.prog 126 cloneB_S := by
  refine pure_by cloneB_E 6 (fi := {fn := Tryz.f126, hooks := [], draws := []}) ⟨Tryz.func126, by kernel_rfl, by kernel_rfl⟩ ?_
  rintro _ K ⟨x, rfl, hx, hK⟩
  replace hK : ∀ p, p = .sl byteV x → K p := fun r h => h ▸ hK
  repeat' (first | exact True.intro | refine ⟨_, LeL.refl _, ?_⟩ | refine ⟨_, _, _, LeL.refl _, ?_⟩ | (refine fun (b : Bool) hb => ?_; cases b <;> (first | exact absurd hb (by decide) | exact Bool.noConfusion (show true = false from hb) | exact Bool.noConfusion (show false = true from hb) | skip)) | (refine fun (hl : _ ≤ MAXL) => ?_) | refine And.intro (a := I64 _) ?_ ?_ | refine And.intro (a := _ ≤ 140737488355328) ?_ ?_ | refine ⟨_, ⟨rfl, rfl⟩, ?_⟩ | refine ⟨_, And.intro (a := I64 _) ?_ ⟨rfl, rfl⟩, ?_⟩ | refine ⟨_, _, ⟨rfl, rfl⟩, ?_⟩ | refine ⟨_, (fun _ => ⟨rfl, rfl⟩), ?_⟩ | refine And.intro (a := chkPend _ _ _ _ _ _) ?_ ?_ | refine And.intro (a := chkPast _ _ _ _ _ _ _ _) ?_ ?_ | refine ⟨⟨rfl, rfl⟩, ?_⟩ | refine And.intro (And.intro rfl rfl) ?_ | refine ⟨True.intro, ?_⟩ | refine ⟨_, ⟨_, rfl, ?_, rfl, rfl, rfl⟩, ?_⟩ | refine ⟨_, rfl, ?_, rfl, ?_⟩ | refine ⟨_, (fun _ => rfl), rfl, ?_⟩ | refine ⟨(fun _ => rfl), ?_⟩ | refine ⟨rfl, ?_⟩ | refine Opt.a ?_ | refine ⟨UInt8, byteV, ?_⟩ | refine ⟨UInt8, byteV, _, LeL.refl _, ?_⟩ | refine ⟨(fun _ => rfl), ?_⟩ | fail)
  · simp
    omega
  · exact hK _ rfl
  · rename_i h
    have e := h rfl
    subst e
    exact hK _ rfl
end Gv
namespace Gv
variable [Glob] [Laid]
theorem bytesF_ca : callable Tryz.prog 129 = true := by kernel_rfl
def bytesF_S : Spec := fun args K => ∃ (l : List FileS) (n : Bs), args = [.sl fileV l, .str n] ∧ (∀ f ∈ l, f.b.length ≤ 1000000) ∧ K (.sl byteV (fileAt l n))
noncomputable def bytesF_lib : List (Nat × Spec) := [(125, placeF_S), (126, cloneB_S)]
noncomputable def bytesF_fns : List (Nat × FnI) := []
noncomputable def bytesF_prims : List (Nat × PSpec) := []
theorem bytesF_E : EnvOK ⟨Tryz.prog, tys, bytesF_lib, bytesF_fns, bytesF_prims, []⟩ := env_ok mixed0 tys0 (.cons placeF_ca placeF_ok (.cons cloneB_ca cloneB_ok .nil)) .nil .nil rfl
set_option maxHeartbeats 4000000 in
theorem bytesF_ok : Pure Tryz.prog 129 bytesF_S := by
  refine pure_by bytesF_E 6 (fi := {fn := Tryz.f129, hooks := [], draws := []}) ⟨Tryz.func129, by kernel_rfl, by kernel_rfl⟩ ?_
  rintro _ K ⟨l, n, rfl, hfb, hK⟩
  replace hK : ∀ r, r = .sl byteV (fileAt l n) → K r := fun r h => h ▸ hK
  refine ⟨l, n, rfl, ?_⟩
  obtain ⟨q, hq⟩ : ∃ q, isAt l n = q := ⟨_, rfl⟩
  rw [hq]
  cases q
  · repeat' (first | exact True.intro | refine ⟨_, LeL.refl _, ?_⟩ | refine ⟨_, _, _, LeL.refl _, ?_⟩ | (refine fun (b : Bool) hb => ?_; cases b <;> (first | exact absurd hb (by decide) | exact Bool.noConfusion (show true = false from hb) | exact Bool.noConfusion (show false = true from hb) | skip)) | (refine fun (hl : _ ≤ MAXL) => ?_) | refine And.intro (a := I64 _) ?_ ?_ | refine And.intro (a := _ ≤ 140737488355328) ?_ ?_ | refine ⟨_, ⟨rfl, rfl⟩, ?_⟩ | refine ⟨_, And.intro (a := I64 _) ?_ ⟨rfl, rfl⟩, ?_⟩ | refine ⟨_, _, ⟨rfl, rfl⟩, ?_⟩ | refine ⟨_, (fun _ => ⟨rfl, rfl⟩), ?_⟩ | refine And.intro (a := chkPend _ _ _ _ _ _) ?_ ?_ | refine And.intro (a := chkPast _ _ _ _ _ _ _ _) ?_ ?_ | refine ⟨⟨rfl, rfl⟩, ?_⟩ | refine And.intro (And.intro rfl rfl) ?_ | refine ⟨True.intro, ?_⟩ | refine ⟨_, ⟨_, rfl, ?_, rfl, rfl, rfl⟩, ?_⟩ | refine ⟨_, rfl, ?_, rfl, ?_⟩ | refine ⟨_, (fun _ => rfl), rfl, ?_⟩ | refine ⟨(fun _ => rfl), ?_⟩ | refine ⟨rfl, ?_⟩ | refine Opt.a ?_ | fail)
    refine ⟨UInt8, byteV, ?_⟩
    refine hK _ ?_
    unfold isAt at hq
    unfold fileAt
    cases h : l[placeI l n]? with
    | none => rfl
    | some f =>
      rw [h] at hq
      have : ¬ f.name = n := of_decide_eq_false hq
      simp [this]
  · have hx : ∃ h : placeI l n < l.length, l[placeI l n].name = n := by
      unfold isAt at hq
      cases h : l[placeI l n]? with
      | none => rw [h] at hq; cases hq
      | some f =>
        rw [h] at hq
        obtain ⟨h1, h2⟩ := List.getElem?_eq_some_iff.1 h
        exact ⟨h1, by rw [h2]; exact of_decide_eq_true hq⟩
    obtain ⟨hlt, hn⟩ := hx
    have hf : fileAt l n = l[placeI l n].b := by
      unfold fileAt
      rw [List.getElem?_eq_getElem hlt]
      simp [hn]
    rw [hf] at hK
    repeat' (first | exact True.intro | refine ⟨_, LeL.refl _, ?_⟩ | refine ⟨_, _, _, LeL.refl _, ?_⟩ | (refine fun (b : Bool) hb => ?_; cases b <;> (first | exact absurd hb (by decide) | exact Bool.noConfusion (show true = false from hb) | exact Bool.noConfusion (show false = true from hb) | skip)) | (refine fun (hl : _ ≤ MAXL) => ?_) | refine And.intro (a := I64 _) ?_ ?_ | refine And.intro (a := _ ≤ 140737488355328) ?_ ?_ | refine ⟨_, ⟨rfl, rfl⟩, ?_⟩ | refine ⟨_, And.intro (a := I64 _) ?_ ⟨rfl, rfl⟩, ?_⟩ | refine ⟨_, _, ⟨rfl, rfl⟩, ?_⟩ | refine ⟨_, (fun _ => ⟨rfl, rfl⟩), ?_⟩ | refine And.intro (a := chkPend _ _ _ _ _ _) ?_ ?_ | refine And.intro (a := chkPast _ _ _ _ _ _ _ _) ?_ ?_ | refine ⟨⟨rfl, rfl⟩, ?_⟩ | refine And.intro (And.intro rfl rfl) ?_ | refine ⟨True.intro, ?_⟩ | refine ⟨_, ⟨_, rfl, ?_, rfl, rfl, rfl⟩, ?_⟩ | refine ⟨_, rfl, ?_, rfl, ?_⟩ | refine ⟨_, (fun _ => rfl), rfl, ?_⟩ | refine ⟨(fun _ => rfl), ?_⟩ | refine ⟨rfl, ?_⟩ | refine Opt.a ?_ | fail)
    · exact hlt
    refine ⟨l[placeI l n].b, rfl, hfb _ (List.getElem_mem hlt), ?_⟩
    repeat' (first | exact True.intro | refine ⟨_, LeL.refl _, ?_⟩ | refine ⟨_, _, _, LeL.refl _, ?_⟩ | (refine fun (b : Bool) hb => ?_; cases b <;> (first | exact absurd hb (by decide) | exact Bool.noConfusion (show true = false from hb) | exact Bool.noConfusion (show false = true from hb) | skip)) | (refine fun (hl : _ ≤ MAXL) => ?_) | refine And.intro (a := I64 _) ?_ ?_ | refine And.intro (a := _ ≤ 140737488355328) ?_ ?_ | refine ⟨_, ⟨rfl, rfl⟩, ?_⟩ | refine ⟨_, And.intro (a := I64 _) ?_ ⟨rfl, rfl⟩, ?_⟩ | refine ⟨_, _, ⟨rfl, rfl⟩, ?_⟩ | refine ⟨_, (fun _ => ⟨rfl, rfl⟩), ?_⟩ | refine And.intro (a := chkPend _ _ _ _ _ _) ?_ ?_ | refine And.intro (a := chkPast _ _ _ _ _ _ _ _) ?_ ?_ | refine ⟨⟨rfl, rfl⟩, ?_⟩ | refine And.intro (And.intro rfl rfl) ?_ | refine ⟨True.intro, ?_⟩ | refine ⟨_, ⟨_, rfl, ?_, rfl, rfl, rfl⟩, ?_⟩ | refine ⟨_, rfl, ?_, rfl, ?_⟩ | refine ⟨_, (fun _ => rfl), rfl, ?_⟩ | refine ⟨(fun _ => rfl), ?_⟩ | refine ⟨rfl, ?_⟩ | refine Opt.a ?_ | fail)
    exact hK _ rfl
end Gv
namespace Gv
variable [Glob] [Laid]
theorem containsB_ca : callable Tryz.prog 180 = true := by kernel_rfl
def containsB_S : Spec := fun args K => ∃ (l : List UInt8) (c : UInt8), args = [.sl byteV l, byteV c] ∧ K (.bool (l.contains c))
noncomputable def containsB_lib : List (Nat × Spec) := []
noncomputable def containsB_fns : List (Nat × FnI) := [(249, {fn := Tryz.f249, hooks := [], draws := []})]
noncomputable def containsB_prims : List (Nat × PSpec) := []
theorem containsB_E : EnvOK ⟨Tryz.prog, tys, containsB_lib, containsB_fns, containsB_prims, []⟩ := env_ok mixed0 tys0 .nil (.cons (by kernel_rfl) ⟨Tryz.func249, by kernel_rfl, by kernel_rfl⟩ .nil) .nil rfl
set_option maxHeartbeats 4000000 in
theorem containsB_ok : Pure Tryz.prog 180 containsB_S := by
  refine pure_by containsB_E 6 (fi := {fn := Tryz.f180, hooks := [], draws := []}) ⟨Tryz.func180, by kernel_rfl, by kernel_rfl⟩ ?_
  rintro _ K ⟨l, c, rfl, hK⟩
  replace hK : ∀ r, r = .bool (l.contains c) → K r := fun r h => h ▸ hK
  refine fun (hl : _ ≤ MAXL) => ?_
  conv => whnf
  refine loop_live [0, 1, 7] (σ := Nat) (fun i => [(8, .int .i64 i)]) (fun i => []) (fun i => i ≤ l.length ∧ c ∉ l.take i) (fun i => l.length - i) 0 ?_
  conv => whnf
  refine ⟨(by (refine wk_sel [] rfl rfl ?_ ?_ <;> (repeat' (first | exact True.intro | exact rfl | exact Or.inl rfl | exact Or.inr rfl | refine And.intro ?_ ?_ | fail)))), ⟨Nat.zero_le _, by simp⟩, fun i hi => ?_⟩
  obtain ⟨hi, hc⟩ := hi
  repeat' (first | exact True.intro | refine ⟨_, LeL.refl _, ?_⟩ | refine ⟨_, _, _, LeL.refl _, ?_⟩ | (refine fun (b : Bool) hb => ?_; cases b <;> (first | exact absurd hb (by decide) | exact Bool.noConfusion (show true = false from hb) | exact Bool.noConfusion (show false = true from hb) | skip)) | (refine fun (hl : _ ≤ MAXL) => ?_) | refine And.intro (a := I64 _) ?_ ?_ | refine And.intro (a := _ ≤ 140737488355328) ?_ ?_ | refine ⟨_, ⟨rfl, rfl⟩, ?_⟩ | refine ⟨_, And.intro (a := I64 _) ?_ ⟨rfl, rfl⟩, ?_⟩ | refine ⟨_, _, ⟨rfl, rfl⟩, ?_⟩ | refine ⟨_, (fun _ => ⟨rfl, rfl⟩), ?_⟩ | refine And.intro (a := chkPend _ _ _ _ _ _) ?_ ?_ | refine And.intro (a := chkPast _ _ _ _ _ _ _ _) ?_ ?_ | refine ⟨⟨rfl, rfl⟩, ?_⟩ | refine And.intro (And.intro rfl rfl) ?_ | refine ⟨True.intro, ?_⟩ | refine ⟨_, ⟨_, rfl, ?_, rfl, rfl, rfl⟩, ?_⟩ | refine ⟨_, rfl, ?_, rfl, ?_⟩ | refine ⟨_, (fun _ => rfl), rfl, ?_⟩ | refine ⟨(fun _ => rfl), ?_⟩ | refine ⟨rfl, ?_⟩ | refine Opt.a ?_ | fail)
  · refine hK _ ?_
    have e : l.take i = l := List.take_of_length_le (by grind)
    rw [e] at hc
    simp [hc]
  · grind
  · (first | omega | (unfold I64; omega) | (simp only [List.length_append, List.length_map, List.length_cons, List.length_nil, Nat.mul_one, Int.ofNat_eq_natCast] at *; omega) | (dsimp only at *; omega) | (unfold I64; dsimp only at *; omega) | (unfold I64; grind) | grind)
  · have hi2 : i < l.length := by grind
    refine ⟨i + 1, (by (refine wk_sel [] rfl rfl ?_ ?_ <;> (repeat' (first | exact True.intro | exact rfl | exact Or.inl rfl | exact Or.inr rfl | refine And.intro ?_ ?_ | fail)))), ⟨by grind, ?_⟩, by grind⟩
    rw [List.take_succ_eq_append_getElem hi2]
    simp only [List.mem_append, List.mem_singleton, not_or]
    refine ⟨hc, fun e => ?_⟩
    subst e
    simp at *
  · have hi2 : i < l.length := by grind
    refine hK _ ?_
    have e : c = l[i] := by
      apply UInt8.toNat_inj.1
      grind
    have h1 : l.contains c = true := by
      rw [e]
      simp
    have h2 : decide ((0 : Int) ≤ (i : Int)) = true := by simp
    rw [h1, h2]
end Gv
namespace Gv
variable [Glob] [Laid]
theorem index1_ca : callable Tryz.prog 266 = true := by kernel_rfl
def index1_S : Spec := fun args K => ∃ (l : List UInt8), args = [.sl byteV l, .sl byteV [10]] ∧ K (.int .i64 (idxB l 10))
set_option maxHeartbeats 4000000 in
theorem index1_ok : Pure Tryz.prog 266 index1_S := by
  refine pure_look fun w m args us K hm hg hl hv hT => ?_
  obtain ⟨l, rfl, hK⟩ := hT
  obtain ⟨a, b, rfl, ha, hb⟩ := args2 hl hv
  obtain ⟨p, c, rfl, hp, hlc, hc, hx⟩ := bytes_open ha hm
  obtain ⟨p2, c2, rfl, hp2, hlc2, hc2, hx2⟩ := bytes_open hb hm
  refine ⟨_, _, hK, .int, ?_⟩
  match p2, hp2, hx2 with
  | none, hp2, _ => exact absurd (hp2 rfl).1 (by simp)
  | some ⟨b2, o2, sp2⟩, _, hx2 =>
    obtain ⟨h1, h2⟩ := hx2 b2 o2 sp2 rfl
    have hs : sp2 = none := h1.resolve_right (by simp)
    subst hs
    have h3 := h2 0 (by simp)
    have h4 : w.cell? ⟨b2, o2, none⟩ = some (.int .u8 10) := by simpa [Addr.add, numsOf] using h3
    match p, hp, hx with
    | none, hp, _ =>
      obtain ⟨rfl, rfl⟩ := hp rfl
      exact (Tryz.bytes_Index_one_nil b2 o2 c2 10 w h4).mono fun e w' ⟨he, hw⟩ => ⟨by rw [he]; rfl, by subst hw; exact Bel.refl _ _⟩
    | some ⟨b1, o1, sp1⟩, _, hx =>
      refine (Tryz.bytes_Index_one_at ⟨b1, o1, sp1⟩ l.length c b2 o2 c2 (numsOf l) 10 w (numsOf_length l) (fun i hi => (hx b1 o1 sp1 rfl).2 i hi) h4).mono fun e w' ⟨he, hw⟩ => ⟨by rw [he, bytesOf_nums]; rfl, by subst hw; exact Bel.refl _ _⟩
end Gv
