/- What functions of the program come to, part 1: in every world; the conditions stand in each theorem. -/
import Derived.Test.YtffljdmmambdjabGreatDoorVd
import Derived.Test.YtffljdmmambdjabGreatDoorProg
import Derived.Test.YtffljdmmambdjabGreatDoorSh
set_option linter.unusedVariables false
set_option linter.unusedSectionVars false
set_option linter.unusedSimpArgs false
open Go Go.Proofs Gw Gp
namespace Gv
variable [Glob]
noncomputable def tys : List (Nat × TI) := [(2, ⟨(.int .i64 0), 1, 8, false, (.int .i64)⟩),
    (3, ⟨(.int .i64 0), 1, 8, false, (.int .i64)⟩),
    (4, ⟨(.bool false), 1, 1, false, .bool⟩),
    (5, ⟨(.int .u8 0), 1, 1, false, (.int .u8)⟩),
    (9, ⟨(.string ⟨#[]⟩), 1, 16, false, .str⟩),
    (20, ⟨.nilIface, 1, 16, false, .iface⟩),
    (22, ⟨(.slice none 0 0), 1, 24, false, (.slice 67)⟩),
    (23, ⟨(.slice none 0 0), 1, 24, false, (.slice 27)⟩),
    (24, ⟨(.slice none 0 0), 1, 24, false, (.slice 9)⟩),
    (25, ⟨(.slice none 0 0), 1, 24, false, (.slice 48)⟩),
    (27, ⟨(.agg #[(.slice none 0 0), (.slice none 0 0), (.string ⟨#[]⟩)]), 3, 64, true, (.struct [(24, 0), (25, 1), (9, 2)])⟩),
    (28, ⟨(.slice none 0 0), 1, 24, false, (.slice 3)⟩),
    (29, ⟨(.slice none 0 0), 1, 24, false, (.slice 5)⟩),
    (30, ⟨(.int .i64 0), 1, 8, false, (.int .i64)⟩),
    (36, ⟨.nilFunc, 1, 8, false, .other⟩),
    (37, ⟨.nilFunc, 1, 8, false, .other⟩),
    (48, ⟨(.agg #[(.int .i64 0), (.string ⟨#[]⟩), (.int .i64 0)]), 3, 32, true, (.struct [(3, 0), (9, 1), (3, 2)])⟩),
    (67, ⟨(.agg #[(.string ⟨#[]⟩), (.slice none 0 0)]), 2, 40, true, (.struct [(9, 0), (29, 1)])⟩),
    (70, ⟨.nilFunc, 1, 8, false, .other⟩),
    (75, ⟨.nilFunc, 1, 8, false, .other⟩),
    (80, ⟨(.slice none 0 0), 1, 24, false, (.slice 29)⟩),
    (84, ⟨.nilIface, 1, 16, false, .iface⟩),
    (92, ⟨(.slice none 0 0), 1, 24, false, (.slice 99)⟩),
    (94, ⟨(.agg #[(.slice none 0 0)]), 1, 24, true, (.struct [(92, 0)])⟩),
    (97, ⟨(.slice none 0 0), 1, 24, false, (.slice 173)⟩),
    (99, ⟨(.agg #[(.int .i64 0), (.string ⟨#[]⟩), (.int .i64 0), (.string ⟨#[]⟩), (.int .i64 0), (.int .i64 0), (.int .i64 0), (.slice none 0 0)]), 8, 96, true, (.struct [(3, 0), (9, 1), (48, 2), (3, 5), (3, 6), (97, 7)])⟩),
    (100, ⟨.nilFunc, 1, 8, false, .other⟩),
    (113, ⟨(.slice none 0 0), 1, 24, false, (.slice 193)⟩),
    (114, ⟨(.slice none 0 0), 1, 24, false, (.slice 195)⟩),
    (116, ⟨(.agg #[(.slice none 0 0), (.slice none 0 0), (.slice none 0 0), (.slice none 0 0), (.slice none 0 0)]), 5, 120, true, (.struct [(94, 0), (22, 1), (113, 2), (114, 3), (29, 4)])⟩),
    (119, ⟨(.slice none 0 0), 1, 24, false, (.slice 30)⟩),
    (125, ⟨.nilFunc, 1, 8, false, .other⟩),
    (127, ⟨.nilFunc, 1, 8, false, .other⟩),
    (130, ⟨(.map none), 1, 8, false, (.map 3 9)⟩),
    (133, ⟨.nilFunc, 1, 8, false, .other⟩),
    (140, ⟨(.pointer none), 1, 8, false, .other⟩),
    (142, ⟨(.agg #[(.pointer none), (.slice none 0 0)]), 2, 32, true, (.struct [(140, 0), (29, 1)])⟩),
    (143, ⟨(.agg #[(.string ⟨#[]⟩), (.string ⟨#[]⟩), (.string ⟨#[]⟩), (.string ⟨#[]⟩), (.string ⟨#[]⟩), (.string ⟨#[]⟩), (.string ⟨#[]⟩), (.string ⟨#[]⟩), (.string ⟨#[]⟩), (.string ⟨#[]⟩), (.string ⟨#[]⟩)]), 11, 176, true, (.array 11 9)⟩),
    (160, ⟨.nilFunc, 1, 8, false, .other⟩),
    (168, ⟨(.slice none 0 0), 1, 24, false, (.slice 24)⟩),
    (171, ⟨(.slice none 0 0), 1, 24, false, (.slice 80)⟩),
    (173, ⟨(.agg #[(.int .i64 0), (.int .i64 0)]), 2, 16, true, (.struct [(3, 0), (3, 1)])⟩),
    (177, ⟨(.map none), 1, 8, false, (.map 3 3)⟩),
    (178, ⟨(.map none), 1, 8, false, (.map 4 3)⟩),
    (179, ⟨(.pointer none), 1, 8, false, .other⟩),
    (181, ⟨(.agg #[(.slice none 0 0), (.slice none 0 0)]), 2, 48, true, (.struct [(94, 0), (97, 1)])⟩),
    (185, ⟨(.map none), 1, 8, false, (.map 173 4)⟩),
    (189, ⟨.nilFunc, 1, 8, false, .other⟩),
    (190, ⟨.nilFunc, 1, 8, false, .other⟩),
    (193, ⟨(.agg #[(.slice none 0 0), (.int .i64 0), (.bool false), (.bool false)]), 4, 40, true, (.struct [(29, 0), (3, 1), (4, 2), (4, 3)])⟩),
    (195, ⟨(.agg #[(.slice none 0 0), (.int .i64 0), (.slice none 0 0), (.bool false), (.bool false)]), 5, 64, true, (.struct [(80, 0), (3, 1), (80, 2), (4, 3), (4, 4)])⟩),
    (199, ⟨(.pointer none), 1, 8, false, .other⟩),
    (209, ⟨(.int .u64 0), 1, 8, false, (.int .u64)⟩),
    (249, ⟨.nilFunc, 1, 8, false, .other⟩),
    (310, ⟨(.pointer none), 1, 8, false, .other⟩),
    (314, ⟨(.int .i64 0), 1, 8, false, (.int .i64)⟩),
    (348, ⟨(.pointer none), 1, 8, false, .other⟩),
    (353, ⟨(.int .u64 0), 1, 8, false, (.int .u64)⟩)]
theorem mixed0 : (Tryz.prog).follows .mixedOrders = true := by kernel_rfl
theorem tys0 : TysOK Tryz.prog tys := tys_ok (by kernel_rfl)
theorem E0ok : EnvOK ⟨Tryz.prog, tys, [], [], [], []⟩ := env_ok mixed0 tys0 .nil .nil .nil rfl
/-- What the library's variables hold. -/
class Laid : Prop where
  maxlen : ∀ w, Sub Glob.mem w → ∃ n, w.cell? ⟨2, 0, none⟩ = some (.int .i64 n)
/-- What the tables of numbers hold. -/
class Nums : Prop where
  pow10 : ∀ w, Sub Glob.mem w → Lib.TabIs Tryz.prog w "internal/strconv.uint64pow10" .u64 Lib.pow10Tab
/-- The library's errors. -/
class Errs : Prop where
  syn : ∀ w, Sub Glob.mem w → ∃ tp p, w.var? Tryz.prog "strconv.ErrSyntax" = some #[.iface tp p]
  rng : ∀ w, Sub Glob.mem w → ∃ tp p, w.var? Tryz.prog "strconv.ErrRange" = some #[.iface tp p]
end Gv
namespace Gv
variable [Glob] [Laid]
def sorterNodes : List Gp.Node := [srcN [97], splitN 2 [⟨0, 0⟩], workN ⟨6, [], 0⟩ [⟨1, 0⟩], workN ⟨6, [], 0⟩ [⟨1, 1⟩], joinN 2 zCmd [⟨2, 0⟩, ⟨3, 0⟩], sinkN [98] [⟨4, 0⟩]]
theorem sorter_ca : callable Tryz.prog 137 = true := by kernel_rfl
def sorter_S : Spec := fun args K => args = [] ∧ K (.agg [.sl nodeV sorterNodes])
noncomputable def sorter_lib : List (Nat × Spec) := []
noncomputable def sorter_fns : List (Nat × FnI) := []
noncomputable def sorter_prims : List (Nat × PSpec) := []
theorem sorter_E : EnvOK ⟨Tryz.prog, tys, sorter_lib, sorter_fns, sorter_prims, []⟩ := env_ok mixed0 tys0 .nil .nil .nil rfl
set_option maxHeartbeats 4000000 in
set_option maxRecDepth 10000 in
theorem sorter_ok : Pure Tryz.prog 137 sorter_S := by
  refine pure_by sorter_E 6 (fi := {fn := Tryz.f137, hooks := [], draws := []}) ⟨Tryz.func137, by kernel_rfl, by kernel_rfl⟩ ?_
  rintro _ K ⟨rfl, hK⟩
  repeat' (first | exact True.intro | refine ⟨_, LeL.refl _, ?_⟩ | refine ⟨_, _, _, LeL.refl _, ?_⟩ | (refine fun (b : Bool) hb => ?_; cases b <;> (first | exact absurd hb (by decide) | exact Bool.noConfusion (show true = false from hb) | exact Bool.noConfusion (show false = true from hb) | skip)) | (refine fun (hl : _ ≤ MAXL) => ?_) | refine And.intro (a := I64 _) ?_ ?_ | refine And.intro (a := _ ≤ 140737488355328) ?_ ?_ | refine ⟨_, ⟨rfl, rfl⟩, ?_⟩ | refine ⟨_, And.intro (a := I64 _) ?_ ⟨rfl, rfl⟩, ?_⟩ | refine ⟨_, _, ⟨rfl, rfl⟩, ?_⟩ | refine ⟨_, (fun _ => ⟨rfl, rfl⟩), ?_⟩ | refine And.intro (a := chkPend _ _ _ _ _ _) ?_ ?_ | refine And.intro (a := chkPast _ _ _ _ _ _ _ _) ?_ ?_ | refine ⟨⟨rfl, rfl⟩, ?_⟩ | refine And.intro (And.intro rfl rfl) ?_ | refine ⟨True.intro, ?_⟩ | refine ⟨_, ⟨_, rfl, ?_, rfl, rfl, rfl⟩, ?_⟩ | refine ⟨_, rfl, ?_, rfl, ?_⟩ | refine ⟨_, (fun _ => rfl), rfl, ?_⟩ | refine ⟨(fun _ => rfl), ?_⟩ | refine ⟨rfl, ?_⟩ | refine Opt.a ?_ | fail)
  refine ⟨Gp.Port, portV, ?_⟩
  repeat' (first | exact True.intro | refine ⟨_, LeL.refl _, ?_⟩ | refine ⟨_, _, _, LeL.refl _, ?_⟩ | (refine fun (b : Bool) hb => ?_; cases b <;> (first | exact absurd hb (by decide) | exact Bool.noConfusion (show true = false from hb) | exact Bool.noConfusion (show false = true from hb) | skip)) | (refine fun (hl : _ ≤ MAXL) => ?_) | refine And.intro (a := I64 _) ?_ ?_ | refine And.intro (a := _ ≤ 140737488355328) ?_ ?_ | refine ⟨_, ⟨rfl, rfl⟩, ?_⟩ | refine ⟨_, And.intro (a := I64 _) ?_ ⟨rfl, rfl⟩, ?_⟩ | refine ⟨_, _, ⟨rfl, rfl⟩, ?_⟩ | refine ⟨_, (fun _ => ⟨rfl, rfl⟩), ?_⟩ | refine And.intro (a := chkPend _ _ _ _ _ _) ?_ ?_ | refine And.intro (a := chkPast _ _ _ _ _ _ _ _) ?_ ?_ | refine ⟨⟨rfl, rfl⟩, ?_⟩ | refine And.intro (And.intro rfl rfl) ?_ | refine ⟨True.intro, ?_⟩ | refine ⟨_, ⟨_, rfl, ?_, rfl, rfl, rfl⟩, ?_⟩ | refine ⟨_, rfl, ?_, rfl, ?_⟩ | refine ⟨_, (fun _ => rfl), rfl, ?_⟩ | refine ⟨(fun _ => rfl), ?_⟩ | refine ⟨rfl, ?_⟩ | refine Opt.a ?_ | fail)
  refine ⟨Gp.Port, portV, [⟨0, 0⟩], LeL.refl _, ?_⟩
  repeat' (first | exact True.intro | refine ⟨_, LeL.refl _, ?_⟩ | refine ⟨_, _, _, LeL.refl _, ?_⟩ | (refine fun (b : Bool) hb => ?_; cases b <;> (first | exact absurd hb (by decide) | exact Bool.noConfusion (show true = false from hb) | exact Bool.noConfusion (show false = true from hb) | skip)) | (refine fun (hl : _ ≤ MAXL) => ?_) | refine And.intro (a := I64 _) ?_ ?_ | refine And.intro (a := _ ≤ 140737488355328) ?_ ?_ | refine ⟨_, ⟨rfl, rfl⟩, ?_⟩ | refine ⟨_, And.intro (a := I64 _) ?_ ⟨rfl, rfl⟩, ?_⟩ | refine ⟨_, _, ⟨rfl, rfl⟩, ?_⟩ | refine ⟨_, (fun _ => ⟨rfl, rfl⟩), ?_⟩ | refine And.intro (a := chkPend _ _ _ _ _ _) ?_ ?_ | refine And.intro (a := chkPast _ _ _ _ _ _ _ _) ?_ ?_ | refine ⟨⟨rfl, rfl⟩, ?_⟩ | refine And.intro (And.intro rfl rfl) ?_ | refine ⟨True.intro, ?_⟩ | refine ⟨_, ⟨_, rfl, ?_, rfl, rfl, rfl⟩, ?_⟩ | refine ⟨_, rfl, ?_, rfl, ?_⟩ | refine ⟨_, (fun _ => rfl), rfl, ?_⟩ | refine ⟨(fun _ => rfl), ?_⟩ | refine ⟨rfl, ?_⟩ | refine Opt.a ?_ | fail)
  refine ⟨Gp.Port, portV, [⟨1, 0⟩], LeL.refl _, ?_⟩
  repeat' (first | exact True.intro | refine ⟨_, LeL.refl _, ?_⟩ | refine ⟨_, _, _, LeL.refl _, ?_⟩ | (refine fun (b : Bool) hb => ?_; cases b <;> (first | exact absurd hb (by decide) | exact Bool.noConfusion (show true = false from hb) | exact Bool.noConfusion (show false = true from hb) | skip)) | (refine fun (hl : _ ≤ MAXL) => ?_) | refine And.intro (a := I64 _) ?_ ?_ | refine And.intro (a := _ ≤ 140737488355328) ?_ ?_ | refine ⟨_, ⟨rfl, rfl⟩, ?_⟩ | refine ⟨_, And.intro (a := I64 _) ?_ ⟨rfl, rfl⟩, ?_⟩ | refine ⟨_, _, ⟨rfl, rfl⟩, ?_⟩ | refine ⟨_, (fun _ => ⟨rfl, rfl⟩), ?_⟩ | refine And.intro (a := chkPend _ _ _ _ _ _) ?_ ?_ | refine And.intro (a := chkPast _ _ _ _ _ _ _ _) ?_ ?_ | refine ⟨⟨rfl, rfl⟩, ?_⟩ | refine And.intro (And.intro rfl rfl) ?_ | refine ⟨True.intro, ?_⟩ | refine ⟨_, ⟨_, rfl, ?_, rfl, rfl, rfl⟩, ?_⟩ | refine ⟨_, rfl, ?_, rfl, ?_⟩ | refine ⟨_, (fun _ => rfl), rfl, ?_⟩ | refine ⟨(fun _ => rfl), ?_⟩ | refine ⟨rfl, ?_⟩ | refine Opt.a ?_ | fail)
  refine ⟨Gp.Port, portV, [⟨1, 1⟩], LeL.refl _, ?_⟩
  repeat' (first | exact True.intro | refine ⟨_, LeL.refl _, ?_⟩ | refine ⟨_, _, _, LeL.refl _, ?_⟩ | (refine fun (b : Bool) hb => ?_; cases b <;> (first | exact absurd hb (by decide) | exact Bool.noConfusion (show true = false from hb) | exact Bool.noConfusion (show false = true from hb) | skip)) | (refine fun (hl : _ ≤ MAXL) => ?_) | refine And.intro (a := I64 _) ?_ ?_ | refine And.intro (a := _ ≤ 140737488355328) ?_ ?_ | refine ⟨_, ⟨rfl, rfl⟩, ?_⟩ | refine ⟨_, And.intro (a := I64 _) ?_ ⟨rfl, rfl⟩, ?_⟩ | refine ⟨_, _, ⟨rfl, rfl⟩, ?_⟩ | refine ⟨_, (fun _ => ⟨rfl, rfl⟩), ?_⟩ | refine And.intro (a := chkPend _ _ _ _ _ _) ?_ ?_ | refine And.intro (a := chkPast _ _ _ _ _ _ _ _) ?_ ?_ | refine ⟨⟨rfl, rfl⟩, ?_⟩ | refine And.intro (And.intro rfl rfl) ?_ | refine ⟨True.intro, ?_⟩ | refine ⟨_, ⟨_, rfl, ?_, rfl, rfl, rfl⟩, ?_⟩ | refine ⟨_, rfl, ?_, rfl, ?_⟩ | refine ⟨_, (fun _ => rfl), rfl, ?_⟩ | refine ⟨(fun _ => rfl), ?_⟩ | refine ⟨rfl, ?_⟩ | refine Opt.a ?_ | fail)
  refine ⟨Gp.Port, portV, [⟨2, 0⟩, ⟨3, 0⟩], LeL.refl _, ?_⟩
  repeat' (first | exact True.intro | refine ⟨_, LeL.refl _, ?_⟩ | refine ⟨_, _, _, LeL.refl _, ?_⟩ | (refine fun (b : Bool) hb => ?_; cases b <;> (first | exact absurd hb (by decide) | exact Bool.noConfusion (show true = false from hb) | exact Bool.noConfusion (show false = true from hb) | skip)) | (refine fun (hl : _ ≤ MAXL) => ?_) | refine And.intro (a := I64 _) ?_ ?_ | refine And.intro (a := _ ≤ 140737488355328) ?_ ?_ | refine ⟨_, ⟨rfl, rfl⟩, ?_⟩ | refine ⟨_, And.intro (a := I64 _) ?_ ⟨rfl, rfl⟩, ?_⟩ | refine ⟨_, _, ⟨rfl, rfl⟩, ?_⟩ | refine ⟨_, (fun _ => ⟨rfl, rfl⟩), ?_⟩ | refine And.intro (a := chkPend _ _ _ _ _ _) ?_ ?_ | refine And.intro (a := chkPast _ _ _ _ _ _ _ _) ?_ ?_ | refine ⟨⟨rfl, rfl⟩, ?_⟩ | refine And.intro (And.intro rfl rfl) ?_ | refine ⟨True.intro, ?_⟩ | refine ⟨_, ⟨_, rfl, ?_, rfl, rfl, rfl⟩, ?_⟩ | refine ⟨_, rfl, ?_, rfl, ?_⟩ | refine ⟨_, (fun _ => rfl), rfl, ?_⟩ | refine ⟨(fun _ => rfl), ?_⟩ | refine ⟨rfl, ?_⟩ | refine Opt.a ?_ | fail)
  refine ⟨Gp.Port, portV, [⟨4, 0⟩], LeL.refl _, ?_⟩
  repeat' (first | exact True.intro | refine ⟨_, LeL.refl _, ?_⟩ | refine ⟨_, _, _, LeL.refl _, ?_⟩ | (refine fun (b : Bool) hb => ?_; cases b <;> (first | exact absurd hb (by decide) | exact Bool.noConfusion (show true = false from hb) | exact Bool.noConfusion (show false = true from hb) | skip)) | (refine fun (hl : _ ≤ MAXL) => ?_) | refine And.intro (a := I64 _) ?_ ?_ | refine And.intro (a := _ ≤ 140737488355328) ?_ ?_ | refine ⟨_, ⟨rfl, rfl⟩, ?_⟩ | refine ⟨_, And.intro (a := I64 _) ?_ ⟨rfl, rfl⟩, ?_⟩ | refine ⟨_, _, ⟨rfl, rfl⟩, ?_⟩ | refine ⟨_, (fun _ => ⟨rfl, rfl⟩), ?_⟩ | refine And.intro (a := chkPend _ _ _ _ _ _) ?_ ?_ | refine And.intro (a := chkPast _ _ _ _ _ _ _ _) ?_ ?_ | refine ⟨⟨rfl, rfl⟩, ?_⟩ | refine And.intro (And.intro rfl rfl) ?_ | refine ⟨True.intro, ?_⟩ | refine ⟨_, ⟨_, rfl, ?_, rfl, rfl, rfl⟩, ?_⟩ | refine ⟨_, rfl, ?_, rfl, ?_⟩ | refine ⟨_, (fun _ => rfl), rfl, ?_⟩ | refine ⟨(fun _ => rfl), ?_⟩ | refine ⟨rfl, ?_⟩ | refine Opt.a ?_ | fail)
  refine ⟨Gp.Node, nodeV, sorterNodes, LeL.refl _, ?_⟩
  exact hK
end Gv
namespace Gv
variable [Glob] [Laid]
theorem word1_ca : callable Tryz.prog 101 = true := by kernel_rfl
def word1_S : Spec := fun args K => ∃ (c : UInt8), args = [byteV c] ∧ K (.bool (!wordByte c))
noncomputable def word1_lib : List (Nat × Spec) := []
noncomputable def word1_fns : List (Nat × FnI) := []
noncomputable def word1_prims : List (Nat × PSpec) := []
theorem word1_E : EnvOK ⟨Tryz.prog, tys, word1_lib, word1_fns, word1_prims, []⟩ := env_ok mixed0 tys0 .nil .nil .nil rfl
set_option maxHeartbeats 4000000 in
theorem word1_ok : Pure Tryz.prog 101 word1_S := by
  refine pure_by word1_E 6 (fi := {fn := Tryz.f101, hooks := [], draws := []}) ⟨Tryz.func101, by kernel_rfl, by kernel_rfl⟩ ?_
  rintro _ K ⟨c, rfl, hK⟩
  replace hK : ∀ r, r = .bool (!wordByte c) → K r := fun r h => h ▸ hK
  repeat' (first | exact True.intro | refine ⟨_, LeL.refl _, ?_⟩ | refine ⟨_, _, _, LeL.refl _, ?_⟩ | (refine fun (b : Bool) hb => ?_; cases b <;> (first | exact absurd hb (by decide) | exact Bool.noConfusion (show true = false from hb) | exact Bool.noConfusion (show false = true from hb) | skip)) | (refine fun (hl : _ ≤ MAXL) => ?_) | refine And.intro (a := I64 _) ?_ ?_ | refine And.intro (a := _ ≤ 140737488355328) ?_ ?_ | refine ⟨_, ⟨rfl, rfl⟩, ?_⟩ | refine ⟨_, And.intro (a := I64 _) ?_ ⟨rfl, rfl⟩, ?_⟩ | refine ⟨_, _, ⟨rfl, rfl⟩, ?_⟩ | refine ⟨_, (fun _ => ⟨rfl, rfl⟩), ?_⟩ | refine And.intro (a := chkPend _ _ _ _ _ _) ?_ ?_ | refine And.intro (a := chkPast _ _ _ _ _ _ _ _) ?_ ?_ | refine ⟨⟨rfl, rfl⟩, ?_⟩ | refine And.intro (And.intro rfl rfl) ?_ | refine ⟨True.intro, ?_⟩ | refine ⟨_, ⟨_, rfl, ?_, rfl, rfl, rfl⟩, ?_⟩ | refine ⟨_, rfl, ?_, rfl, ?_⟩ | refine ⟨_, (fun _ => rfl), rfl, ?_⟩ | refine ⟨(fun _ => rfl), ?_⟩ | refine ⟨rfl, ?_⟩ | refine Opt.a ?_ | fail)
  all_goals (refine hK _ ?_; unfold wordByte; congr 1; grind)
end Gv
namespace Gv
variable [Glob] [Laid]
theorem word_ca : callable Tryz.prog 32 = true := by kernel_rfl
def word_S : Spec := fun args K => ∃ (s : Bs), args = [.str s] ∧ K (.bool (isWord s))
noncomputable def word_lib : List (Nat × Spec) := [(101, word1_S)]
noncomputable def word_fns : List (Nat × FnI) := [(100, {fn := Tryz.f100, hooks := [], draws := []}), (162, {fn := Tryz.f162, hooks := [], draws := []})]
noncomputable def word_prims : List (Nat × PSpec) := []
theorem word_E : EnvOK ⟨Tryz.prog, tys, word_lib, word_fns, word_prims, []⟩ := env_ok mixed0 tys0 (.cons word1_ca word1_ok .nil) (.cons (by kernel_rfl) ⟨Tryz.func100, by kernel_rfl, by kernel_rfl⟩ (.cons (by kernel_rfl) ⟨Tryz.func162, by kernel_rfl, by kernel_rfl⟩ .nil)) .nil rfl
set_option maxHeartbeats 4000000 in
theorem word_ok : Pure Tryz.prog 32 word_S := by
  refine pure_by word_E 6 (fi := {fn := Tryz.f32, hooks := [], draws := []}) ⟨Tryz.func32, by kernel_rfl, by kernel_rfl⟩ ?_
  rintro _ K ⟨s, rfl, hK⟩
  replace hK : ∀ r, r = .bool (isWord s) → K r := fun r h => h ▸ hK
  repeat' (first | exact True.intro | refine ⟨_, LeL.refl _, ?_⟩ | refine ⟨_, _, _, LeL.refl _, ?_⟩ | (refine fun (b : Bool) hb => ?_; cases b <;> (first | exact absurd hb (by decide) | exact Bool.noConfusion (show true = false from hb) | exact Bool.noConfusion (show false = true from hb) | skip)) | (refine fun (hl : _ ≤ MAXL) => ?_) | refine And.intro (a := I64 _) ?_ ?_ | refine And.intro (a := _ ≤ 140737488355328) ?_ ?_ | refine ⟨_, ⟨rfl, rfl⟩, ?_⟩ | refine ⟨_, And.intro (a := I64 _) ?_ ⟨rfl, rfl⟩, ?_⟩ | refine ⟨_, _, ⟨rfl, rfl⟩, ?_⟩ | refine ⟨_, (fun _ => ⟨rfl, rfl⟩), ?_⟩ | refine And.intro (a := chkPend _ _ _ _ _ _) ?_ ?_ | refine And.intro (a := chkPast _ _ _ _ _ _ _ _) ?_ ?_ | refine ⟨⟨rfl, rfl⟩, ?_⟩ | refine And.intro (And.intro rfl rfl) ?_ | refine ⟨True.intro, ?_⟩ | refine ⟨_, ⟨_, rfl, ?_, rfl, rfl, rfl⟩, ?_⟩ | refine ⟨_, rfl, ?_, rfl, ?_⟩ | refine ⟨_, (fun _ => rfl), rfl, ?_⟩ | refine ⟨(fun _ => rfl), ?_⟩ | refine ⟨rfl, ?_⟩ | refine Opt.a ?_ | fail)
  · refine hK _ ?_
    have h : (!decide (s = [])) = false := by assumption
    have : s = [] := by simpa using h
    subst this; rfl
  · refine hK _ ?_
    have h : decide ((s.length : Int) ≤ 12) = false := by assumption
    have h2 : ¬ s.length ≤ 12 := by
      intro h3
      have : ((s.length : Int) ≤ 12) := by omega
      simp [this] at h
    simp [isWord, h2]
  · have h : decide ((s.length : Int) ≤ 12) = true := by assumption
    have h2 : (s.length : Int) ≤ 12 := by simpa using h
    omega
  have hw : ∃ t : Bool, isWord s = t ∧ t = s.all wordByte := by
    have h : (!decide (s = [])) = true := by assumption
    have h1 : s ≠ [] := by simpa using h
    have h : decide ((s.length : Int) ≤ 12) = true := by assumption
    have h2 : (s.length : Int) ≤ 12 := by simpa using h
    have h3 : s.length ≤ 12 := by omega
    exact ⟨s.all wordByte, by simp [isWord, h1, h3], rfl⟩
  obtain ⟨t, ht, hta⟩ := hw
  rw [ht] at hK
  conv => whnf
  refine loop_live [0, 1, 7] (σ := Nat) (fun i => [(8, .int .i64 i)]) (fun _ => []) (fun i => i ≤ s.length ∧ (s.take i).all wordByte = true) (fun i => s.length - i) 0 ?_
  conv => whnf
  refine ⟨(by (refine wk_sel [] rfl rfl ?_ ?_ <;> (repeat' (first | exact True.intro | exact rfl | exact Or.inl rfl | exact Or.inr rfl | refine And.intro ?_ ?_ | fail)))), ⟨Nat.zero_le _, rfl⟩, fun i hi => ?_⟩
  obtain ⟨hi, hI⟩ := hi
  repeat' (first | exact True.intro | refine ⟨_, LeL.refl _, ?_⟩ | refine ⟨_, _, _, LeL.refl _, ?_⟩ | (refine fun (b : Bool) hb => ?_; cases b <;> (first | exact absurd hb (by decide) | exact Bool.noConfusion (show true = false from hb) | exact Bool.noConfusion (show false = true from hb) | skip)) | (refine fun (hl : _ ≤ MAXL) => ?_) | refine And.intro (a := I64 _) ?_ ?_ | refine And.intro (a := _ ≤ 140737488355328) ?_ ?_ | refine ⟨_, ⟨rfl, rfl⟩, ?_⟩ | refine ⟨_, And.intro (a := I64 _) ?_ ⟨rfl, rfl⟩, ?_⟩ | refine ⟨_, _, ⟨rfl, rfl⟩, ?_⟩ | refine ⟨_, (fun _ => ⟨rfl, rfl⟩), ?_⟩ | refine And.intro (a := chkPend _ _ _ _ _ _) ?_ ?_ | refine And.intro (a := chkPast _ _ _ _ _ _ _ _) ?_ ?_ | refine ⟨⟨rfl, rfl⟩, ?_⟩ | refine And.intro (And.intro rfl rfl) ?_ | refine ⟨True.intro, ?_⟩ | refine ⟨_, ⟨_, rfl, ?_, rfl, rfl, rfl⟩, ?_⟩ | refine ⟨_, rfl, ?_, rfl, ?_⟩ | refine ⟨_, (fun _ => rfl), rfl, ?_⟩ | refine ⟨(fun _ => rfl), ?_⟩ | refine ⟨rfl, ?_⟩ | refine Opt.a ?_ | fail)
  · have e : s.take i = s := List.take_of_length_le (by grind)
    rw [e] at hI
    refine hK _ ?_
    rw [hta, hI]
    rfl
  · grind
  have hi2 : i < s.length := by grind
  refine ⟨s[i], rfl, ?_⟩
  have hts : s.take (i + 1) = s.take i ++ [s[i]] := List.take_succ_eq_append_getElem hi2
  repeat' (first | exact True.intro | refine ⟨_, LeL.refl _, ?_⟩ | refine ⟨_, _, _, LeL.refl _, ?_⟩ | (refine fun (b : Bool) hb => ?_; cases b <;> (first | exact absurd hb (by decide) | exact Bool.noConfusion (show true = false from hb) | exact Bool.noConfusion (show false = true from hb) | skip)) | (refine fun (hl : _ ≤ MAXL) => ?_) | refine And.intro (a := I64 _) ?_ ?_ | refine And.intro (a := _ ≤ 140737488355328) ?_ ?_ | refine ⟨_, ⟨rfl, rfl⟩, ?_⟩ | refine ⟨_, And.intro (a := I64 _) ?_ ⟨rfl, rfl⟩, ?_⟩ | refine ⟨_, _, ⟨rfl, rfl⟩, ?_⟩ | refine ⟨_, (fun _ => ⟨rfl, rfl⟩), ?_⟩ | refine And.intro (a := chkPend _ _ _ _ _ _) ?_ ?_ | refine And.intro (a := chkPast _ _ _ _ _ _ _ _) ?_ ?_ | refine ⟨⟨rfl, rfl⟩, ?_⟩ | refine And.intro (And.intro rfl rfl) ?_ | refine ⟨True.intro, ?_⟩ | refine ⟨_, ⟨_, rfl, ?_, rfl, rfl, rfl⟩, ?_⟩ | refine ⟨_, rfl, ?_, rfl, ?_⟩ | refine ⟨_, (fun _ => rfl), rfl, ?_⟩ | refine ⟨(fun _ => rfl), ?_⟩ | refine ⟨rfl, ?_⟩ | refine Opt.a ?_ | fail)
  · (first | omega | (unfold I64; omega) | (simp only [List.length_append, List.length_map, List.length_cons, List.length_nil, Nat.mul_one, Int.ofNat_eq_natCast] at *; omega) | (dsimp only at *; omega) | (unfold I64; dsimp only at *; omega) | (unfold I64; grind) | grind)
  · refine ⟨i + 1, (by (refine wk_sel [] rfl rfl ?_ ?_ <;> (repeat' (first | exact True.intro | exact rfl | exact Or.inl rfl | exact Or.inr rfl | refine And.intro ?_ ?_ | fail)))), ⟨by omega, ?_⟩, by omega⟩
    rw [hts, List.all_append, hI]
    grind
  · refine hK _ ?_
    have h1 : wordByte s[i] = false := by grind
    have h2 : s.all wordByte = false := by
      rw [List.all_eq_false]
      exact ⟨s[i], List.getElem_mem hi2, by simp [h1]⟩
    rw [hta, h2]
    simp
end Gv
namespace Gv
variable [Glob] [Laid]
theorem ccheck_ca : callable Tryz.prog 31 = true := by kernel_rfl
def ccheck_S : Spec := fun args K => ∃ (k : Int) (s : Bs) (n : Int), args = [.agg [.int .i64 k, .str s, .int .i64 n]] ∧ K (.int .i64 (checkCmd ⟨k, s, n⟩))
noncomputable def ccheck_lib : List (Nat × Spec) := [(32, word_S)]
noncomputable def ccheck_fns : List (Nat × FnI) := []
noncomputable def ccheck_prims : List (Nat × PSpec) := []
theorem ccheck_E : EnvOK ⟨Tryz.prog, tys, ccheck_lib, ccheck_fns, ccheck_prims, []⟩ := env_ok mixed0 tys0 (.cons word_ca word_ok .nil) .nil .nil rfl
set_option maxHeartbeats 4000000 in
theorem ccheck_ok : Pure Tryz.prog 31 ccheck_S := by
  refine pure_by ccheck_E 6 (fi := {fn := Tryz.f31, hooks := [4, 5, 7, 9], draws := []}) ⟨Tryz.func31, by kernel_rfl, by kernel_rfl⟩ ?_
  rintro _ K ⟨k, s, n, rfl, hK⟩
  replace hK : ∀ r, r = .int .i64 (checkCmd ⟨k, s, n⟩) → K r := fun r h => h ▸ hK
  obtain ⟨uw, huw⟩ : ∃ b, useWord ⟨k, s, n⟩ = b := ⟨_, rfl⟩
  obtain ⟨un, hun⟩ : ∃ b, useN ⟨k, s, n⟩ = b := ⟨_, rfl⟩
  have hc : checkCmd ⟨k, s, n⟩ = if k < 1 ∨ 10 < k then 4 else if (uw = false ∧ s ≠ []) ∨ (un = false ∧ n ≠ 0) then 4 else if un = true ∧ (n < 1 ∨ 1000 < n) then 3 else if (uw = true ∧ isWord s = false) ∨ (k = 3 ∧ s.length ≠ 2) then 1 else 0 := by
    unfold checkCmd
    rw [huw, hun]
  rw [hc] at hK
  clear hc
  simp only [useWord] at huw
  simp only [useN] at hun
  repeat' (first | exact True.intro | refine ⟨_, LeL.refl _, ?_⟩ | refine ⟨_, _, _, LeL.refl _, ?_⟩ | (refine fun (b : Bool) hb => ?_; cases b <;> (first | exact absurd hb (by decide) | exact Bool.noConfusion (show true = false from hb) | exact Bool.noConfusion (show false = true from hb) | skip)) | (refine fun (hl : _ ≤ MAXL) => ?_) | refine And.intro (a := I64 _) ?_ ?_ | refine And.intro (a := _ ≤ 140737488355328) ?_ ?_ | refine ⟨_, ⟨rfl, rfl⟩, ?_⟩ | refine ⟨_, And.intro (a := I64 _) ?_ ⟨rfl, rfl⟩, ?_⟩ | refine ⟨_, _, ⟨rfl, rfl⟩, ?_⟩ | refine ⟨_, (fun _ => ⟨rfl, rfl⟩), ?_⟩ | refine And.intro (a := chkPend _ _ _ _ _ _) ?_ ?_ | refine And.intro (a := chkPast _ _ _ _ _ _ _ _) ?_ ?_ | refine ⟨⟨rfl, rfl⟩, ?_⟩ | refine And.intro (And.intro rfl rfl) ?_ | refine ⟨True.intro, ?_⟩ | refine ⟨_, ⟨_, rfl, ?_, rfl, rfl, rfl⟩, ?_⟩ | refine ⟨_, rfl, ?_, rfl, ?_⟩ | refine ⟨_, (fun _ => rfl), rfl, ?_⟩ | refine ⟨(fun _ => rfl), ?_⟩ | refine ⟨rfl, ?_⟩ | refine Opt.a ?_ | fail)
  rotate_left
  · exact hK _ (by rw [if_pos (by grind)])
  · exact hK _ (by rw [if_pos (by grind)])
  have h1 : ¬ (k < 1 ∨ 10 < k) := by grind
  simp only [h1, if_false] at hK
  conv => whnf
  refine join_live [1] (σ := Bool) (fun b => [(3, .bool b)]) (fun _ => [.box [.int .i64 k, .str s, .int .i64 n]]) (fun b => b = uw) ?_
  conv => whnf
  refine ⟨?_, fun b hbu => ?_⟩
  · repeat' (first | exact True.intro | refine ⟨_, LeL.refl _, ?_⟩ | refine ⟨_, _, _, LeL.refl _, ?_⟩ | (refine fun (b : Bool) hb => ?_; cases b <;> (first | exact absurd hb (by decide) | exact Bool.noConfusion (show true = false from hb) | exact Bool.noConfusion (show false = true from hb) | skip)) | (refine fun (hl : _ ≤ MAXL) => ?_) | refine And.intro (a := I64 _) ?_ ?_ | refine And.intro (a := _ ≤ 140737488355328) ?_ ?_ | refine ⟨_, ⟨rfl, rfl⟩, ?_⟩ | refine ⟨_, And.intro (a := I64 _) ?_ ⟨rfl, rfl⟩, ?_⟩ | refine ⟨_, _, ⟨rfl, rfl⟩, ?_⟩ | refine ⟨_, (fun _ => ⟨rfl, rfl⟩), ?_⟩ | refine And.intro (a := chkPend _ _ _ _ _ _) ?_ ?_ | refine And.intro (a := chkPast _ _ _ _ _ _ _ _) ?_ ?_ | refine ⟨⟨rfl, rfl⟩, ?_⟩ | refine And.intro (And.intro rfl rfl) ?_ | refine ⟨True.intro, ?_⟩ | refine ⟨_, ⟨_, rfl, ?_, rfl, rfl, rfl⟩, ?_⟩ | refine ⟨_, rfl, ?_, rfl, ?_⟩ | refine ⟨_, (fun _ => rfl), rfl, ?_⟩ | refine ⟨(fun _ => rfl), ?_⟩ | refine ⟨rfl, ?_⟩ | refine Opt.a ?_ | fail)
    all_goals (refine ⟨_, by refine wk_sel [some 0] rfl rfl ?_ ?_ <;> (repeat' (first | exact True.intro | exact rfl | exact Or.inl rfl | exact Or.inr rfl | refine And.intro ?_ ?_ | fail)), ?_⟩; rw [← huw]; simp_all)
  obtain rfl : uw = b := hbu.symm
  clear huw
  conv => whnf
  refine join_live [1, 3] (σ := Bool) (fun b => [(4, .bool b)]) (fun _ => [.box [.int .i64 k, .str s, .int .i64 n]]) (fun b => b = un) ?_
  conv => whnf
  refine ⟨?_, fun b hbu => ?_⟩
  · repeat' (first | exact True.intro | refine ⟨_, LeL.refl _, ?_⟩ | refine ⟨_, _, _, LeL.refl _, ?_⟩ | (refine fun (b : Bool) hb => ?_; cases b <;> (first | exact absurd hb (by decide) | exact Bool.noConfusion (show true = false from hb) | exact Bool.noConfusion (show false = true from hb) | skip)) | (refine fun (hl : _ ≤ MAXL) => ?_) | refine And.intro (a := I64 _) ?_ ?_ | refine And.intro (a := _ ≤ 140737488355328) ?_ ?_ | refine ⟨_, ⟨rfl, rfl⟩, ?_⟩ | refine ⟨_, And.intro (a := I64 _) ?_ ⟨rfl, rfl⟩, ?_⟩ | refine ⟨_, _, ⟨rfl, rfl⟩, ?_⟩ | refine ⟨_, (fun _ => ⟨rfl, rfl⟩), ?_⟩ | refine And.intro (a := chkPend _ _ _ _ _ _) ?_ ?_ | refine And.intro (a := chkPast _ _ _ _ _ _ _ _) ?_ ?_ | refine ⟨⟨rfl, rfl⟩, ?_⟩ | refine And.intro (And.intro rfl rfl) ?_ | refine ⟨True.intro, ?_⟩ | refine ⟨_, ⟨_, rfl, ?_, rfl, rfl, rfl⟩, ?_⟩ | refine ⟨_, rfl, ?_, rfl, ?_⟩ | refine ⟨_, (fun _ => rfl), rfl, ?_⟩ | refine ⟨(fun _ => rfl), ?_⟩ | refine ⟨rfl, ?_⟩ | refine Opt.a ?_ | fail)
    all_goals (refine ⟨_, by refine wk_sel [some 0] rfl rfl ?_ ?_ <;> (repeat' (first | exact True.intro | exact rfl | exact Or.inl rfl | exact Or.inr rfl | refine And.intro ?_ ?_ | fail)), ?_⟩; rw [← hun]; simp_all)
  obtain rfl : un = b := hbu.symm
  clear hun
  conv => whnf
  refine join_live [1, 3, 4] (σ := Unit) (fun b => []) (fun _ => [.box [.int .i64 k, .str s, .int .i64 n]]) (fun b => ¬ ((uw = false ∧ s ≠ []) ∨ (un = false ∧ n ≠ 0))) ?_
  conv => whnf
  refine ⟨?_, fun _ h2 => ?_⟩
  · repeat' (first | exact True.intro | refine ⟨_, LeL.refl _, ?_⟩ | refine ⟨_, _, _, LeL.refl _, ?_⟩ | (refine fun (b : Bool) hb => ?_; cases b <;> (first | exact absurd hb (by decide) | exact Bool.noConfusion (show true = false from hb) | exact Bool.noConfusion (show false = true from hb) | skip)) | (refine fun (hl : _ ≤ MAXL) => ?_) | refine And.intro (a := I64 _) ?_ ?_ | refine And.intro (a := _ ≤ 140737488355328) ?_ ?_ | refine ⟨_, ⟨rfl, rfl⟩, ?_⟩ | refine ⟨_, And.intro (a := I64 _) ?_ ⟨rfl, rfl⟩, ?_⟩ | refine ⟨_, _, ⟨rfl, rfl⟩, ?_⟩ | refine ⟨_, (fun _ => ⟨rfl, rfl⟩), ?_⟩ | refine And.intro (a := chkPend _ _ _ _ _ _) ?_ ?_ | refine And.intro (a := chkPast _ _ _ _ _ _ _ _) ?_ ?_ | refine ⟨⟨rfl, rfl⟩, ?_⟩ | refine And.intro (And.intro rfl rfl) ?_ | refine ⟨True.intro, ?_⟩ | refine ⟨_, ⟨_, rfl, ?_, rfl, rfl, rfl⟩, ?_⟩ | refine ⟨_, rfl, ?_, rfl, ?_⟩ | refine ⟨_, (fun _ => rfl), rfl, ?_⟩ | refine ⟨(fun _ => rfl), ?_⟩ | refine ⟨rfl, ?_⟩ | refine Opt.a ?_ | fail)
    all_goals (conv => whnf)
    all_goals first
      | (refine ⟨(), (by (refine wk_sel [some 0] rfl rfl ?_ ?_ <;> (repeat' (first | exact True.intro | exact rfl | exact Or.inl rfl | exact Or.inr rfl | refine And.intro ?_ ?_ | fail)))), ?_⟩; simp_all; done)
      | (refine hK _ ?_; rw [if_pos]; simp_all; done)
  simp only [h2, if_false] at hK
  conv => whnf
  refine join_live [1, 3] (σ := Unit) (fun b => []) (fun _ => [.box [.int .i64 k, .str s, .int .i64 n]]) (fun b => ¬ (un = true ∧ (n < 1 ∨ 1000 < n))) ?_
  conv => whnf
  refine ⟨?_, fun _ h3 => ?_⟩
  · repeat' (first | exact True.intro | refine ⟨_, LeL.refl _, ?_⟩ | refine ⟨_, _, _, LeL.refl _, ?_⟩ | (refine fun (b : Bool) hb => ?_; cases b <;> (first | exact absurd hb (by decide) | exact Bool.noConfusion (show true = false from hb) | exact Bool.noConfusion (show false = true from hb) | skip)) | (refine fun (hl : _ ≤ MAXL) => ?_) | refine And.intro (a := I64 _) ?_ ?_ | refine And.intro (a := _ ≤ 140737488355328) ?_ ?_ | refine ⟨_, ⟨rfl, rfl⟩, ?_⟩ | refine ⟨_, And.intro (a := I64 _) ?_ ⟨rfl, rfl⟩, ?_⟩ | refine ⟨_, _, ⟨rfl, rfl⟩, ?_⟩ | refine ⟨_, (fun _ => ⟨rfl, rfl⟩), ?_⟩ | refine And.intro (a := chkPend _ _ _ _ _ _) ?_ ?_ | refine And.intro (a := chkPast _ _ _ _ _ _ _ _) ?_ ?_ | refine ⟨⟨rfl, rfl⟩, ?_⟩ | refine And.intro (And.intro rfl rfl) ?_ | refine ⟨True.intro, ?_⟩ | refine ⟨_, ⟨_, rfl, ?_, rfl, rfl, rfl⟩, ?_⟩ | refine ⟨_, rfl, ?_, rfl, ?_⟩ | refine ⟨_, (fun _ => rfl), rfl, ?_⟩ | refine ⟨(fun _ => rfl), ?_⟩ | refine ⟨rfl, ?_⟩ | refine Opt.a ?_ | fail)
    all_goals (conv => whnf)
    all_goals first
      | (refine ⟨(), (by (refine wk_sel [some 0] rfl rfl ?_ ?_ <;> (repeat' (first | exact True.intro | exact rfl | exact Or.inl rfl | exact Or.inr rfl | refine And.intro ?_ ?_ | fail)))), ?_⟩; simp_all; done)
      | (refine hK _ ?_; rw [if_pos]; simp_all; done)
  simp only [h3, if_false] at hK
  repeat' (first | exact True.intro | refine ⟨_, LeL.refl _, ?_⟩ | refine ⟨_, _, _, LeL.refl _, ?_⟩ | (refine fun (b : Bool) hb => ?_; cases b <;> (first | exact absurd hb (by decide) | exact Bool.noConfusion (show true = false from hb) | exact Bool.noConfusion (show false = true from hb) | skip)) | (refine fun (hl : _ ≤ MAXL) => ?_) | refine And.intro (a := I64 _) ?_ ?_ | refine And.intro (a := _ ≤ 140737488355328) ?_ ?_ | refine ⟨_, ⟨rfl, rfl⟩, ?_⟩ | refine ⟨_, And.intro (a := I64 _) ?_ ⟨rfl, rfl⟩, ?_⟩ | refine ⟨_, _, ⟨rfl, rfl⟩, ?_⟩ | refine ⟨_, (fun _ => ⟨rfl, rfl⟩), ?_⟩ | refine And.intro (a := chkPend _ _ _ _ _ _) ?_ ?_ | refine And.intro (a := chkPast _ _ _ _ _ _ _ _) ?_ ?_ | refine ⟨⟨rfl, rfl⟩, ?_⟩ | refine And.intro (And.intro rfl rfl) ?_ | refine ⟨True.intro, ?_⟩ | refine ⟨_, ⟨_, rfl, ?_, rfl, rfl, rfl⟩, ?_⟩ | refine ⟨_, rfl, ?_, rfl, ?_⟩ | refine ⟨_, (fun _ => rfl), rfl, ?_⟩ | refine ⟨(fun _ => rfl), ?_⟩ | refine ⟨rfl, ?_⟩ | refine Opt.a ?_ | fail)
  all_goals (conv => whnf)
  any_goals first
      | (refine hK _ ?_; rw [if_pos]; simp_all; done)
      | (refine hK _ ?_; rw [if_neg]; simp_all; done)
  refine ⟨s, rfl, ?_⟩
  repeat' (first | exact True.intro | refine ⟨_, LeL.refl _, ?_⟩ | refine ⟨_, _, _, LeL.refl _, ?_⟩ | (refine fun (b : Bool) hb => ?_; cases b <;> (first | exact absurd hb (by decide) | exact Bool.noConfusion (show true = false from hb) | exact Bool.noConfusion (show false = true from hb) | skip)) | (refine fun (hl : _ ≤ MAXL) => ?_) | refine And.intro (a := I64 _) ?_ ?_ | refine And.intro (a := _ ≤ 140737488355328) ?_ ?_ | refine ⟨_, ⟨rfl, rfl⟩, ?_⟩ | refine ⟨_, And.intro (a := I64 _) ?_ ⟨rfl, rfl⟩, ?_⟩ | refine ⟨_, _, ⟨rfl, rfl⟩, ?_⟩ | refine ⟨_, (fun _ => ⟨rfl, rfl⟩), ?_⟩ | refine And.intro (a := chkPend _ _ _ _ _ _) ?_ ?_ | refine And.intro (a := chkPast _ _ _ _ _ _ _ _) ?_ ?_ | refine ⟨⟨rfl, rfl⟩, ?_⟩ | refine And.intro (And.intro rfl rfl) ?_ | refine ⟨True.intro, ?_⟩ | refine ⟨_, ⟨_, rfl, ?_, rfl, rfl, rfl⟩, ?_⟩ | refine ⟨_, rfl, ?_, rfl, ?_⟩ | refine ⟨_, (fun _ => rfl), rfl, ?_⟩ | refine ⟨(fun _ => rfl), ?_⟩ | refine ⟨rfl, ?_⟩ | refine Opt.a ?_ | fail)
  all_goals (conv => whnf)
  any_goals first
      | (refine hK _ ?_; rw [if_pos]; simp_all; done)
      | (refine hK _ ?_; rw [if_neg]; simp_all; done)
  · refine hK _ ?_
    rw [if_neg]
    grind
  · refine hK _ ?_
    rw [if_pos]
    grind
end Gv
namespace Gv
variable [Glob] [Laid]
theorem checkJ_ca : callable Tryz.prog 61 = true := by kernel_rfl
def checkJ_S : Spec := fun args K => ∃ (h : Int) (c : Cmd), args = [.int .i64 h, cmdV c] ∧ K (.int .i64 (checkJoin h c))
noncomputable def checkJ_lib : List (Nat × Spec) := [(31, ccheck_S)]
noncomputable def checkJ_fns : List (Nat × FnI) := []
noncomputable def checkJ_prims : List (Nat × PSpec) := []
theorem checkJ_E : EnvOK ⟨Tryz.prog, tys, checkJ_lib, checkJ_fns, checkJ_prims, [(48, [true, false, true])]⟩ := env_ok mixed0 tys0 (.cons ccheck_ca ccheck_ok .nil) .nil .nil (by kernel_rfl)
set_option maxHeartbeats 4000000 in
theorem checkJ_ok : Pure Tryz.prog 61 checkJ_S := by
  refine pure_by checkJ_E 6 (fi := {fn := Tryz.f61, hooks := [], draws := []}) ⟨Tryz.func61, by kernel_rfl, by kernel_rfl⟩ ?_
  rintro _ K ⟨h, c, rfl, hK⟩
  replace hK : ∀ r, r = .int .i64 (checkJoin h c) → K r := fun r h => h ▸ hK
  obtain ⟨ck, cw, cn⟩ := c
  obtain ⟨q, hq⟩ : ∃ q, checkCmd ⟨ck, cw, cn⟩ = q := ⟨_, rfl⟩
  unfold checkJoin at hK
  rw [hq] at hK
  repeat' (first | exact True.intro | refine ⟨_, LeL.refl _, ?_⟩ | refine ⟨_, _, _, LeL.refl _, ?_⟩ | (refine fun (b : Bool) hb => ?_; cases b <;> (first | exact absurd hb (by decide) | exact Bool.noConfusion (show true = false from hb) | exact Bool.noConfusion (show false = true from hb) | skip)) | (refine fun (hl : _ ≤ MAXL) => ?_) | refine And.intro (a := I64 _) ?_ ?_ | refine And.intro (a := _ ≤ 140737488355328) ?_ ?_ | refine ⟨_, ⟨rfl, rfl⟩, ?_⟩ | refine ⟨_, And.intro (a := I64 _) ?_ ⟨rfl, rfl⟩, ?_⟩ | refine ⟨_, _, ⟨rfl, rfl⟩, ?_⟩ | refine ⟨_, (fun _ => ⟨rfl, rfl⟩), ?_⟩ | refine And.intro (a := chkPend _ _ _ _ _ _) ?_ ?_ | refine And.intro (a := chkPast _ _ _ _ _ _ _ _) ?_ ?_ | refine ⟨⟨rfl, rfl⟩, ?_⟩ | refine And.intro (And.intro rfl rfl) ?_ | refine ⟨True.intro, ?_⟩ | refine ⟨_, ⟨_, rfl, ?_, rfl, rfl, rfl⟩, ?_⟩ | refine ⟨_, rfl, ?_, rfl, ?_⟩ | refine ⟨_, (fun _ => rfl), rfl, ?_⟩ | refine ⟨(fun _ => rfl), ?_⟩ | refine ⟨rfl, ?_⟩ | refine Opt.a ?_ | fail)
  · have h1 : ¬ h < 1 := of_decide_eq_false (by assumption)
    have h2 : ¬ 4 < h := of_decide_eq_false (by assumption)
    have h3 : h = 4 := by
      have h3 : (!decide (h = 4)) = false := by assumption
      simpa using h3
    refine ⟨ck, cw, cn, rfl, ?_⟩
    rw [hq]
    repeat' (first | exact True.intro | refine ⟨_, LeL.refl _, ?_⟩ | refine ⟨_, _, _, LeL.refl _, ?_⟩ | (refine fun (b : Bool) hb => ?_; cases b <;> (first | exact absurd hb (by decide) | exact Bool.noConfusion (show true = false from hb) | exact Bool.noConfusion (show false = true from hb) | skip)) | (refine fun (hl : _ ≤ MAXL) => ?_) | refine And.intro (a := I64 _) ?_ ?_ | refine And.intro (a := _ ≤ 140737488355328) ?_ ?_ | refine ⟨_, ⟨rfl, rfl⟩, ?_⟩ | refine ⟨_, And.intro (a := I64 _) ?_ ⟨rfl, rfl⟩, ?_⟩ | refine ⟨_, _, ⟨rfl, rfl⟩, ?_⟩ | refine ⟨_, (fun _ => ⟨rfl, rfl⟩), ?_⟩ | refine And.intro (a := chkPend _ _ _ _ _ _) ?_ ?_ | refine And.intro (a := chkPast _ _ _ _ _ _ _ _) ?_ ?_ | refine ⟨⟨rfl, rfl⟩, ?_⟩ | refine And.intro (And.intro rfl rfl) ?_ | refine ⟨True.intro, ?_⟩ | refine ⟨_, ⟨_, rfl, ?_, rfl, rfl, rfl⟩, ?_⟩ | refine ⟨_, rfl, ?_, rfl, ?_⟩ | refine ⟨_, (fun _ => rfl), rfl, ?_⟩ | refine ⟨(fun _ => rfl), ?_⟩ | refine ⟨rfl, ?_⟩ | refine Opt.a ?_ | fail)
    refine hK _ ?_
    rw [if_neg (by omega), if_neg (by omega)]
  · have h1 : ¬ h < 1 := of_decide_eq_false (by assumption)
    have h2 : ¬ 4 < h := of_decide_eq_false (by assumption)
    have h3 : ¬ h = 4 := by
      have h3 : (!decide (h = 4)) = true := by assumption
      simpa using h3
    have hz : (⟨ck, cw, cn⟩ : Cmd) = zCmd := by
      unfold zCmd
      grind
    conv => whnf
    refine hK _ ?_
    rw [if_neg (by omega), if_pos h3, if_neg (fun e => e hz)]
  · have h1 : ¬ h < 1 := of_decide_eq_false (by assumption)
    have h2 : ¬ 4 < h := of_decide_eq_false (by assumption)
    have h3 : ¬ h = 4 := by
      have h3 : (!decide (h = 4)) = true := by assumption
      simpa using h3
    have hz : (⟨ck, cw, cn⟩ : Cmd) ≠ zCmd := by
      unfold zCmd
      grind
    conv => whnf
    refine hK _ ?_
    rw [if_neg (by omega), if_pos h3, if_pos hz]
  · have h2 : 4 < h := of_decide_eq_true (by assumption)
    conv => whnf
    refine hK _ ?_
    rw [if_pos (by omega)]
  · have h2 : h < 1 := of_decide_eq_true (by assumption)
    conv => whnf
    refine hK _ ?_
    rw [if_pos (by omega)]
end Gv
namespace Gv
variable [Glob] [Laid]
theorem cmd_ext {a b : Cmd} (h1 : a.kind = b.kind) (h2 : a.word = b.word) (h3 : a.n = b.n) : a = b := by
  cases a; cases b; simp_all
theorem node_ext {a b : Gp.Node} (h1 : a.kind = b.kind) (h2 : a.file = b.file) (h3 : a.c = b.c) (h4 : a.how = b.how) (h5 : a.wide = b.wide) (h6 : a.ins = b.ins) : a = b := by
  cases a; cases b; simp_all
theorem checkN_ca : callable Tryz.prog 143 = true := by kernel_rfl
def checkN_S : Spec := fun args K => ∃ n : Gp.Node, args = [nodeV n] ∧ K (.int .i64 (checkN n))
noncomputable def checkN_lib : List (Nat × Spec) := [(32, word_S), (31, ccheck_S), (61, checkJ_S)]
noncomputable def checkN_fns : List (Nat × FnI) := []
noncomputable def checkN_prims : List (Nat × PSpec) := []
theorem checkN_E : EnvOK ⟨Tryz.prog, tys, checkN_lib, checkN_fns, checkN_prims, [(48, [true, false, true])]⟩ := env_ok mixed0 tys0 (.cons word_ca word_ok (.cons ccheck_ca ccheck_ok (.cons checkJ_ca checkJ_ok .nil))) .nil .nil (by kernel_rfl)
set_option maxHeartbeats 8000000 in
theorem checkN_ok : Pure Tryz.prog 143 checkN_S := by
  refine pure_by checkN_E 6 (fi := {fn := Tryz.f143, hooks := [23], draws := [(20, [0, 1, 0, 4, 3, 19, 63, 127])]}) ⟨Tryz.func143, by kernel_rfl, by kernel_rfl⟩ ?_
  rintro _ K ⟨n, rfl, hK⟩
  replace hK : ∀ r, r = .int .i64 (checkN n) → K r := fun r h => h ▸ hK
  repeat' (first | exact True.intro | refine ⟨_, LeL.refl _, ?_⟩ | refine ⟨_, _, _, LeL.refl _, ?_⟩ | (refine fun (b : Bool) hb => ?_; cases b <;> (first | exact absurd hb (by decide) | exact Bool.noConfusion (show true = false from hb) | exact Bool.noConfusion (show false = true from hb) | skip)) | (refine fun (hl : _ ≤ MAXL) => ?_) | refine And.intro (a := I64 _) ?_ ?_ | refine And.intro (a := _ ≤ 140737488355328) ?_ ?_ | refine ⟨_, ⟨rfl, rfl⟩, ?_⟩ | refine ⟨_, And.intro (a := I64 _) ?_ ⟨rfl, rfl⟩, ?_⟩ | refine ⟨_, _, ⟨rfl, rfl⟩, ?_⟩ | refine ⟨_, (fun _ => ⟨rfl, rfl⟩), ?_⟩ | refine And.intro (a := chkPend _ _ _ _ _ _) ?_ ?_ | refine And.intro (a := chkPast _ _ _ _ _ _ _ _) ?_ ?_ | refine ⟨⟨rfl, rfl⟩, ?_⟩ | refine And.intro (And.intro rfl rfl) ?_ | refine ⟨True.intro, ?_⟩ | refine ⟨_, ⟨_, rfl, ?_, rfl, rfl, rfl⟩, ?_⟩ | refine ⟨_, rfl, ?_, rfl, ?_⟩ | refine ⟨_, (fun _ => rfl), rfl, ?_⟩ | refine ⟨(fun _ => rfl), ?_⟩ | refine ⟨rfl, ?_⟩ | refine Opt.a ?_ | fail)
  conv => whnf
  refine join_live [1, 3] (σ := Unit) (fun _ => [(4, .int .i64 (errN n)), (5, .bool (insN n))]) (fun _ => [.box (nodeV n).cells, .box (nodeV (wantN n)).cells]) (fun _ => 1 ≤ n.kind ∧ n.kind ≤ 5) ?_
  conv => whnf
  refine ⟨?_, fun _ hk => ?_⟩
  · repeat' (first | exact True.intro | refine ⟨_, LeL.refl _, ?_⟩ | refine ⟨_, _, _, LeL.refl _, ?_⟩ | (refine fun (b : Bool) hb => ?_; cases b <;> (first | exact absurd hb (by decide) | exact Bool.noConfusion (show true = false from hb) | exact Bool.noConfusion (show false = true from hb) | skip)) | (refine fun (hl : _ ≤ MAXL) => ?_) | refine And.intro (a := I64 _) ?_ ?_ | refine And.intro (a := _ ≤ 140737488355328) ?_ ?_ | refine ⟨_, ⟨rfl, rfl⟩, ?_⟩ | refine ⟨_, And.intro (a := I64 _) ?_ ⟨rfl, rfl⟩, ?_⟩ | refine ⟨_, _, ⟨rfl, rfl⟩, ?_⟩ | refine ⟨_, (fun _ => ⟨rfl, rfl⟩), ?_⟩ | refine And.intro (a := chkPend _ _ _ _ _ _) ?_ ?_ | refine And.intro (a := chkPast _ _ _ _ _ _ _ _) ?_ ?_ | refine ⟨⟨rfl, rfl⟩, ?_⟩ | refine And.intro (And.intro rfl rfl) ?_ | refine ⟨True.intro, ?_⟩ | refine ⟨_, ⟨_, rfl, ?_, rfl, rfl, rfl⟩, ?_⟩ | refine ⟨_, rfl, ?_, rfl, ?_⟩ | refine ⟨_, (fun _ => rfl), rfl, ?_⟩ | refine ⟨(fun _ => rfl), ?_⟩ | refine ⟨rfl, ?_⟩ | refine Opt.a ?_ | fail)
    all_goals first | exact absurd ((by assumption : decide (n.kind = 1) = true).symm.trans (by assumption : decide (n.kind = 1) = false)) (by decide) | skip
    · have h1 : ¬ n.kind = 1 := of_decide_eq_false (by assumption)
      have h5 : ¬ n.kind = 5 := of_decide_eq_false (by assumption)
      have h2 : ¬ n.kind = 2 := of_decide_eq_false (by assumption)
      have h3 : ¬ n.kind = 3 := of_decide_eq_false (by assumption)
      have h4 : ¬ n.kind = 4 := of_decide_eq_false (by assumption)
      conv => whnf
      refine hK _ ?_
      unfold checkN
      rw [if_pos (by omega)]
    · have h4 : n.kind = 4 := of_decide_eq_true (by assumption)
      have e1 : errN n = checkJoin n.how n.c := by unfold errN; rw [if_neg (by omega), if_neg (by omega), if_neg (by omega)]
      have e2 : insN n = (decide ((1 : Int) ≤ (n.ins.length : Int)) && decide ((n.ins.length : Int) ≤ 5)) := by unfold insN; rw [if_neg (by omega), if_pos h4]
      have e3 : wantN n = ⟨n.kind, [], n.c, n.how, 0, n.ins⟩ := by unfold wantN; simp [h4]
      conv => whnf
      refine ⟨n.how, n.c, rfl, ?_⟩
      repeat' (first | exact True.intro | refine ⟨_, LeL.refl _, ?_⟩ | refine ⟨_, _, _, LeL.refl _, ?_⟩ | (refine fun (b : Bool) hb => ?_; cases b <;> (first | exact absurd hb (by decide) | exact Bool.noConfusion (show true = false from hb) | exact Bool.noConfusion (show false = true from hb) | skip)) | (refine fun (hl : _ ≤ MAXL) => ?_) | refine And.intro (a := I64 _) ?_ ?_ | refine And.intro (a := _ ≤ 140737488355328) ?_ ?_ | refine ⟨_, ⟨rfl, rfl⟩, ?_⟩ | refine ⟨_, And.intro (a := I64 _) ?_ ⟨rfl, rfl⟩, ?_⟩ | refine ⟨_, _, ⟨rfl, rfl⟩, ?_⟩ | refine ⟨_, (fun _ => ⟨rfl, rfl⟩), ?_⟩ | refine And.intro (a := chkPend _ _ _ _ _ _) ?_ ?_ | refine And.intro (a := chkPast _ _ _ _ _ _ _ _) ?_ ?_ | refine ⟨⟨rfl, rfl⟩, ?_⟩ | refine And.intro (And.intro rfl rfl) ?_ | refine ⟨True.intro, ?_⟩ | refine ⟨_, ⟨_, rfl, ?_, rfl, rfl, rfl⟩, ?_⟩ | refine ⟨_, rfl, ?_, rfl, ?_⟩ | refine ⟨_, (fun _ => rfl), rfl, ?_⟩ | refine ⟨(fun _ => rfl), ?_⟩ | refine ⟨rfl, ?_⟩ | refine Opt.a ?_ | fail)
      all_goals (conv => whnf)
      · refine ⟨(), ?_, by omega⟩
        rw [e1, e2, e3, (by assumption : decide ((1 : Int) ≤ (n.ins.length : Int)) = false), Bool.false_and]
        exact (by (refine wk_auto ?_; refine Sel4.mk rfl rfl ?_ ?_ <;> (repeat' (first | exact True.intro | exact rfl | exact Or.inl rfl | exact Or.inr rfl | refine And.intro ?_ ?_ | fail))))
      · refine ⟨(), ?_, by omega⟩
        rw [e1, e2, e3, (by assumption : decide ((1 : Int) ≤ (n.ins.length : Int)) = true), Bool.true_and]
        exact (by (refine wk_auto ?_; refine Sel4.mk rfl rfl ?_ ?_ <;> (repeat' (first | exact True.intro | exact rfl | exact Or.inl rfl | exact Or.inr rfl | refine And.intro ?_ ?_ | fail))))
    · have h3 : n.kind = 3 := of_decide_eq_true (by assumption)
      have e1 : errN n = checkCmd n.c := by unfold errN; rw [if_neg (by omega), if_neg (by omega), if_pos h3]
      have e2 : insN n = decide ((n.ins.length : Int) = 1) := by unfold insN; rw [if_neg (by omega), if_neg (by omega)]
      have e3 : wantN n = ⟨n.kind, [], n.c, 0, 0, n.ins⟩ := by unfold wantN; simp [h3]
      conv => whnf
      refine ⟨n.c.kind, n.c.word, n.c.n, rfl, ?_⟩
      conv => whnf
      refine ⟨(), ?_, by omega⟩
      rw [e1, e2, e3]
      exact (by (refine wk_auto ?_; refine Sel4.mk rfl rfl ?_ ?_ <;> (repeat' (first | exact True.intro | exact rfl | exact Or.inl rfl | exact Or.inr rfl | refine And.intro ?_ ?_ | fail))))
    · have h2 : n.kind = 2 := of_decide_eq_true (by assumption)
      have e1 : errN n = 0 := by unfold errN; rw [if_neg (by omega), if_pos h2, if_neg (by have := of_decide_eq_false (by assumption : decide (n.wide < 1) = false); have := of_decide_eq_false (by assumption : decide (5 < n.wide) = false); omega)]
      have e2 : insN n = decide ((n.ins.length : Int) = 1) := by unfold insN; rw [if_neg (by omega), if_neg (by omega)]
      have e3 : wantN n = ⟨n.kind, [], zCmd, 0, n.wide, n.ins⟩ := by unfold wantN; simp [h2]
      conv => whnf
      refine ⟨(), ?_, by omega⟩
      rw [e1, e2, e3]
      exact (by (refine wk_auto ?_; refine Sel4.mk rfl rfl ?_ ?_ <;> (repeat' (first | exact True.intro | exact rfl | exact Or.inl rfl | exact Or.inr rfl | refine And.intro ?_ ?_ | fail))))
    · have h2 : n.kind = 2 := of_decide_eq_true (by assumption)
      have e1 : errN n = 3 := by unfold errN; rw [if_neg (by omega), if_pos h2, if_pos (.inr (of_decide_eq_true (by assumption : decide (5 < n.wide) = true)))]
      have e2 : insN n = decide ((n.ins.length : Int) = 1) := by unfold insN; rw [if_neg (by omega), if_neg (by omega)]
      have e3 : wantN n = ⟨n.kind, [], zCmd, 0, n.wide, n.ins⟩ := by unfold wantN; simp [h2]
      conv => whnf
      refine ⟨(), ?_, by omega⟩
      rw [e1, e2, e3]
      exact (by (refine wk_auto ?_; refine Sel4.mk rfl rfl ?_ ?_ <;> (repeat' (first | exact True.intro | exact rfl | exact Or.inl rfl | exact Or.inr rfl | refine And.intro ?_ ?_ | fail))))
    · have h2 : n.kind = 2 := of_decide_eq_true (by assumption)
      have e1 : errN n = 3 := by unfold errN; rw [if_neg (by omega), if_pos h2, if_pos (.inl (of_decide_eq_true (by assumption : decide (n.wide < 1) = true)))]
      have e2 : insN n = decide ((n.ins.length : Int) = 1) := by unfold insN; rw [if_neg (by omega), if_neg (by omega)]
      have e3 : wantN n = ⟨n.kind, [], zCmd, 0, n.wide, n.ins⟩ := by unfold wantN; simp [h2]
      conv => whnf
      refine ⟨(), ?_, by omega⟩
      rw [e1, e2, e3]
      exact (by (refine wk_auto ?_; refine Sel4.mk rfl rfl ?_ ?_ <;> (repeat' (first | exact True.intro | exact rfl | exact Or.inl rfl | exact Or.inr rfl | refine And.intro ?_ ?_ | fail))))
    · have h5 : n.kind = 5 := of_decide_eq_true (by assumption)
      have e1 : errN n = if isWord n.file = true then 0 else 1 := by unfold errN; rw [if_pos (.inr h5)]
      have e2 : insN n = ((decide ((n.ins.length : Int) = 1) == decide (n.kind = 5)) && decide ((n.ins.length : Int) < 2)) := by unfold insN; rw [if_pos (.inr h5)]
      have e3 : wantN n = ⟨n.kind, n.file, zCmd, 0, 0, n.ins⟩ := by unfold wantN; simp [h5]
      conv => whnf
      refine ⟨n.file, rfl, ?_⟩
      repeat' (first | exact True.intro | refine ⟨_, LeL.refl _, ?_⟩ | refine ⟨_, _, _, LeL.refl _, ?_⟩ | (refine fun (b : Bool) hb => ?_; cases b <;> (first | exact absurd hb (by decide) | exact Bool.noConfusion (show true = false from hb) | exact Bool.noConfusion (show false = true from hb) | skip)) | (refine fun (hl : _ ≤ MAXL) => ?_) | refine And.intro (a := I64 _) ?_ ?_ | refine And.intro (a := _ ≤ 140737488355328) ?_ ?_ | refine ⟨_, ⟨rfl, rfl⟩, ?_⟩ | refine ⟨_, And.intro (a := I64 _) ?_ ⟨rfl, rfl⟩, ?_⟩ | refine ⟨_, _, ⟨rfl, rfl⟩, ?_⟩ | refine ⟨_, (fun _ => ⟨rfl, rfl⟩), ?_⟩ | refine And.intro (a := chkPend _ _ _ _ _ _) ?_ ?_ | refine And.intro (a := chkPast _ _ _ _ _ _ _ _) ?_ ?_ | refine ⟨⟨rfl, rfl⟩, ?_⟩ | refine And.intro (And.intro rfl rfl) ?_ | refine ⟨True.intro, ?_⟩ | refine ⟨_, ⟨_, rfl, ?_, rfl, rfl, rfl⟩, ?_⟩ | refine ⟨_, rfl, ?_, rfl, ?_⟩ | refine ⟨_, (fun _ => rfl), rfl, ?_⟩ | refine ⟨(fun _ => rfl), ?_⟩ | refine ⟨rfl, ?_⟩ | refine Opt.a ?_ | fail)
      all_goals (conv => whnf)
      all_goals refine ⟨(), ?_, by omega⟩
      all_goals rw [e1, e2, e3]
      all_goals first | rw [(by assumption : (decide ((n.ins.length : Int) = 1) == decide (n.kind = 5)) = false), Bool.false_and] | rw [(by assumption : (decide ((n.ins.length : Int) = 1) == decide (n.kind = 5)) = true), Bool.true_and]
      all_goals first | rw [if_neg (by simpa using (by assumption : (!isWord n.file) = true))] | rw [if_pos (by simpa using (by assumption : (!isWord n.file) = false))]
      all_goals exact (by (refine wk_auto ?_; refine Sel4.mk rfl rfl ?_ ?_ <;> (repeat' (first | exact True.intro | exact rfl | exact Or.inl rfl | exact Or.inr rfl | refine And.intro ?_ ?_ | fail))))
    · have h5 : n.kind = 1 := of_decide_eq_true (by assumption)
      have e1 : errN n = if isWord n.file = true then 0 else 1 := by unfold errN; rw [if_pos (.inl h5)]
      have e2 : insN n = ((decide ((n.ins.length : Int) = 1) == decide (n.kind = 5)) && decide ((n.ins.length : Int) < 2)) := by unfold insN; rw [if_pos (.inl h5)]
      have e3 : wantN n = ⟨n.kind, n.file, zCmd, 0, 0, n.ins⟩ := by unfold wantN; simp [h5]
      conv => whnf
      refine ⟨n.file, rfl, ?_⟩
      repeat' (first | exact True.intro | refine ⟨_, LeL.refl _, ?_⟩ | refine ⟨_, _, _, LeL.refl _, ?_⟩ | (refine fun (b : Bool) hb => ?_; cases b <;> (first | exact absurd hb (by decide) | exact Bool.noConfusion (show true = false from hb) | exact Bool.noConfusion (show false = true from hb) | skip)) | (refine fun (hl : _ ≤ MAXL) => ?_) | refine And.intro (a := I64 _) ?_ ?_ | refine And.intro (a := _ ≤ 140737488355328) ?_ ?_ | refine ⟨_, ⟨rfl, rfl⟩, ?_⟩ | refine ⟨_, And.intro (a := I64 _) ?_ ⟨rfl, rfl⟩, ?_⟩ | refine ⟨_, _, ⟨rfl, rfl⟩, ?_⟩ | refine ⟨_, (fun _ => ⟨rfl, rfl⟩), ?_⟩ | refine And.intro (a := chkPend _ _ _ _ _ _) ?_ ?_ | refine And.intro (a := chkPast _ _ _ _ _ _ _ _) ?_ ?_ | refine ⟨⟨rfl, rfl⟩, ?_⟩ | refine And.intro (And.intro rfl rfl) ?_ | refine ⟨True.intro, ?_⟩ | refine ⟨_, ⟨_, rfl, ?_, rfl, rfl, rfl⟩, ?_⟩ | refine ⟨_, rfl, ?_, rfl, ?_⟩ | refine ⟨_, (fun _ => rfl), rfl, ?_⟩ | refine ⟨(fun _ => rfl), ?_⟩ | refine ⟨rfl, ?_⟩ | refine Opt.a ?_ | fail)
      all_goals (conv => whnf)
      all_goals refine ⟨(), ?_, by omega⟩
      all_goals rw [e1, e2, e3]
      all_goals first | rw [(by assumption : (decide ((n.ins.length : Int) = 1) == decide (n.kind = 5)) = false), Bool.false_and] | rw [(by assumption : (decide ((n.ins.length : Int) = 1) == decide (n.kind = 5)) = true), Bool.true_and]
      all_goals first | rw [if_neg (by simpa using (by assumption : (!isWord n.file) = true))] | rw [if_pos (by simpa using (by assumption : (!isWord n.file) = false))]
      all_goals exact (by (refine wk_auto ?_; refine Sel4.mk rfl rfl ?_ ?_ <;> (repeat' (first | exact True.intro | exact rfl | exact Or.inl rfl | exact Or.inr rfl | refine And.intro ?_ ?_ | fail))))
  · have hce : checkN n = if errN n ≠ 0 then errN n else if insN n = true ∧ n = wantN n then 0 else 4 := by unfold checkN; rw [if_neg (by omega)]
    rw [hce] at hK
    have hw1 : (wantN n).kind = n.kind := rfl
    have hw2 : (wantN n).ins = n.ins := rfl
    repeat' (first | exact True.intro | refine ⟨_, LeL.refl _, ?_⟩ | refine ⟨_, _, _, LeL.refl _, ?_⟩ | (refine fun (b : Bool) hb => ?_; cases b <;> (first | exact absurd hb (by decide) | exact Bool.noConfusion (show true = false from hb) | exact Bool.noConfusion (show false = true from hb) | skip)) | (refine fun (hl : _ ≤ MAXL) => ?_) | refine And.intro (a := I64 _) ?_ ?_ | refine And.intro (a := _ ≤ 140737488355328) ?_ ?_ | refine ⟨_, ⟨rfl, rfl⟩, ?_⟩ | refine ⟨_, And.intro (a := I64 _) ?_ ⟨rfl, rfl⟩, ?_⟩ | refine ⟨_, _, ⟨rfl, rfl⟩, ?_⟩ | refine ⟨_, (fun _ => ⟨rfl, rfl⟩), ?_⟩ | refine And.intro (a := chkPend _ _ _ _ _ _) ?_ ?_ | refine And.intro (a := chkPast _ _ _ _ _ _ _ _) ?_ ?_ | refine ⟨⟨rfl, rfl⟩, ?_⟩ | refine And.intro (And.intro rfl rfl) ?_ | refine ⟨True.intro, ?_⟩ | refine ⟨_, ⟨_, rfl, ?_, rfl, rfl, rfl⟩, ?_⟩ | refine ⟨_, rfl, ?_, rfl, ?_⟩ | refine ⟨_, (fun _ => rfl), rfl, ?_⟩ | refine ⟨(fun _ => rfl), ?_⟩ | refine ⟨rfl, ?_⟩ | refine Opt.a ?_ | fail)
    all_goals conv => whnf
    all_goals refine hK _ (congrArg (V.int .i64) ?_)
    all_goals first | (rw [if_neg (by simpa using (by assumption : (!decide (errN n = 0)) = false))]) | (rw [if_pos (by simpa using (by assumption : (!decide (errN n = 0)) = true))])
    · have f1 : insN n = true := by simpa using (by assumption : (!insN n) = false)
      have f2 : n.file = (wantN n).file := by simpa using (by assumption : (!decide (n.file = (wantN n).file)) = false)
      have f3 : n.how = (wantN n).how := by simpa using (by assumption : (!decide (n.how = (wantN n).how)) = false)
      have f4 : n.wide = (wantN n).wide := by simpa using (by assumption : (!decide (n.wide = (wantN n).wide)) = false)
      have f5 : n.c = (wantN n).c := by
        have h := (by assumption : (!(decide (n.c.kind = (wantN n).c.kind) && (decide (n.c.word = (wantN n).c.word) && (decide (n.c.n = (wantN n).c.n) && true)))) = false)
        have h : n.c.kind = (wantN n).c.kind ∧ n.c.word = (wantN n).c.word ∧ n.c.n = (wantN n).c.n := by simpa using h
        exact cmd_ext h.1 h.2.1 h.2.2
      rw [if_pos ⟨f1, node_ext rfl f2 f5 f3 f4 rfl⟩]
    · have f4 : ¬ n.wide = (wantN n).wide := by simpa using (by assumption : (!decide (n.wide = (wantN n).wide)) = true)
      rw [if_neg (fun x => f4 (congrArg Gp.Node.wide x.2))]
    · have f4 : ¬ n.how = (wantN n).how := by simpa using (by assumption : (!decide (n.how = (wantN n).how)) = true)
      rw [if_neg (fun x => f4 (congrArg Gp.Node.how x.2))]
    · have h := (by assumption : (!(decide (n.c.kind = (wantN n).c.kind) && (decide (n.c.word = (wantN n).c.word) && (decide (n.c.n = (wantN n).c.n) && true)))) = true)
      have f4 : ¬ n.c = (wantN n).c := fun e => by
        rw [← e] at h
        simp at h
      rw [if_neg (fun x => f4 (congrArg Gp.Node.c x.2))]
    · have f4 : ¬ n.file = (wantN n).file := by simpa using (by assumption : (!decide (n.file = (wantN n).file)) = true)
      rw [if_neg (fun x => f4 (congrArg Gp.Node.file x.2))]
    · have f4 : ¬ insN n = true := by simpa using (by assumption : (!insN n) = true)
      rw [if_neg (fun x => f4 x.1)]
end Gv
namespace Gv
variable [Glob] [Laid]
theorem outs_ca : callable Tryz.prog 82 = true := by kernel_rfl
def outs_S : Spec := fun args K => ∃ n : Gp.Node, args = [nodeV n] ∧ K (.int .i64 (outsN n))
noncomputable def outs_lib : List (Nat × Spec) := []
noncomputable def outs_fns : List (Nat × FnI) := []
noncomputable def outs_prims : List (Nat × PSpec) := []
theorem outs_E : EnvOK ⟨Tryz.prog, tys, outs_lib, outs_fns, outs_prims, []⟩ := env_ok mixed0 tys0 .nil .nil .nil rfl
set_option maxHeartbeats 4000000 in
theorem outs_ok : Pure Tryz.prog 82 outs_S := by
  refine pure_by outs_E 6 (fi := {fn := Tryz.f82, hooks := [], draws := []}) ⟨Tryz.func82, by kernel_rfl, by kernel_rfl⟩ ?_
  rintro _ K ⟨n, rfl, hK⟩
  replace hK : ∀ r, r = .int .i64 (outsN n) → K r := fun r h => h ▸ hK
  unfold outsN at hK
  repeat' (first | exact True.intro | refine ⟨_, LeL.refl _, ?_⟩ | refine ⟨_, _, _, LeL.refl _, ?_⟩ | (refine fun (b : Bool) hb => ?_; cases b <;> (first | exact absurd hb (by decide) | exact Bool.noConfusion (show true = false from hb) | exact Bool.noConfusion (show false = true from hb) | skip)) | (refine fun (hl : _ ≤ MAXL) => ?_) | refine And.intro (a := I64 _) ?_ ?_ | refine And.intro (a := _ ≤ 140737488355328) ?_ ?_ | refine ⟨_, ⟨rfl, rfl⟩, ?_⟩ | refine ⟨_, And.intro (a := I64 _) ?_ ⟨rfl, rfl⟩, ?_⟩ | refine ⟨_, _, ⟨rfl, rfl⟩, ?_⟩ | refine ⟨_, (fun _ => ⟨rfl, rfl⟩), ?_⟩ | refine And.intro (a := chkPend _ _ _ _ _ _) ?_ ?_ | refine And.intro (a := chkPast _ _ _ _ _ _ _ _) ?_ ?_ | refine ⟨⟨rfl, rfl⟩, ?_⟩ | refine And.intro (And.intro rfl rfl) ?_ | refine ⟨True.intro, ?_⟩ | refine ⟨_, ⟨_, rfl, ?_, rfl, rfl, rfl⟩, ?_⟩ | refine ⟨_, rfl, ?_, rfl, ?_⟩ | refine ⟨_, (fun _ => rfl), rfl, ?_⟩ | refine ⟨(fun _ => rfl), ?_⟩ | refine ⟨rfl, ?_⟩ | refine Opt.a ?_ | fail)
  · have h2 : ¬ n.kind = 2 := of_decide_eq_false (by assumption)
    have h5 : ¬ n.kind = 5 := of_decide_eq_false (by assumption)
    rw [if_neg h2, if_neg h5] at hK
    exact hK _ rfl
  · have h2 : ¬ n.kind = 2 := of_decide_eq_false (by assumption)
    have h5 : n.kind = 5 := of_decide_eq_true (by assumption)
    rw [if_neg h2, if_pos h5] at hK
    exact hK _ rfl
  · have h2 : n.kind = 2 := of_decide_eq_true (by assumption)
    rw [if_pos h2] at hK
    exact hK _ rfl
end Gv
namespace Gv
variable [Glob] [Laid]
theorem checkG_ca : callable Tryz.prog 78 = true := by kernel_rfl
def checkG_S : Spec := fun args K => ∃ N : List Gp.Node, args = [.agg [.sl nodeV N]] ∧ K (.int .i64 (checkG N))
noncomputable def checkG_lib : List (Nat × Spec) := [(143, checkN_S), (82, outs_S)]
noncomputable def checkG_fns : List (Nat × FnI) := []
noncomputable def checkG_prims : List (Nat × PSpec) := []
theorem checkG_E : EnvOK ⟨Tryz.prog, tys, checkG_lib, checkG_fns, checkG_prims, [(173, [true, true])]⟩ := env_ok mixed0 tys0 (.cons checkN_ca checkN_ok (.cons outs_ca outs_ok .nil)) .nil .nil (by kernel_rfl)
set_option maxHeartbeats 80000000 in
theorem checkG_ok : Pure Tryz.prog 78 checkG_S := by
  refine pure_by checkG_E 6 (fi := {fn := Tryz.f78, hooks := [16], draws := [(14, [0, 1, 3, 7, 15, 31, 15, 127, 255, 511, 1023, 2047, 4095, 8191, 16383, 32767, 65535, 32767, 163839, 32767, 557055, 1998847, 4095999, 8290303, 16777215, 33554431])]}) ⟨Tryz.func78, by kernel_rfl, by kernel_rfl⟩ ?_
  rintro _ K ⟨N, rfl, hK⟩
  replace hK : ∀ r, r = .int .i64 (checkG N) → K r := fun r h => h ▸ hK
  unfold checkG at hK
  repeat' (first | exact True.intro | refine ⟨_, LeL.refl _, ?_⟩ | refine ⟨_, _, _, LeL.refl _, ?_⟩ | (refine fun (b : Bool) hb => ?_; cases b <;> (first | exact absurd hb (by decide) | exact Bool.noConfusion (show true = false from hb) | exact Bool.noConfusion (show false = true from hb) | skip)) | (refine fun (hl : _ ≤ MAXL) => ?_) | refine And.intro (a := I64 _) ?_ ?_ | refine And.intro (a := _ ≤ 140737488355328) ?_ ?_ | refine ⟨_, ⟨rfl, rfl⟩, ?_⟩ | refine ⟨_, And.intro (a := I64 _) ?_ ⟨rfl, rfl⟩, ?_⟩ | refine ⟨_, _, ⟨rfl, rfl⟩, ?_⟩ | refine ⟨_, (fun _ => ⟨rfl, rfl⟩), ?_⟩ | refine And.intro (a := chkPend _ _ _ _ _ _) ?_ ?_ | refine And.intro (a := chkPast _ _ _ _ _ _ _ _) ?_ ?_ | refine ⟨⟨rfl, rfl⟩, ?_⟩ | refine And.intro (And.intro rfl rfl) ?_ | refine ⟨True.intro, ?_⟩ | refine ⟨_, ⟨_, rfl, ?_, rfl, rfl, rfl⟩, ?_⟩ | refine ⟨_, rfl, ?_, rfl, ?_⟩ | refine ⟨_, (fun _ => rfl), rfl, ?_⟩ | refine ⟨(fun _ => rfl), ?_⟩ | refine ⟨rfl, ?_⟩ | refine Opt.a ?_ | refine ⟨Bool, V.lit, ?_⟩ | fail)
  rotate_left
  · have h : (60 : Int) < (N.length : Int) := of_decide_eq_true (by assumption)
    rw [if_pos (by omega)] at hK
    exact hK _ rfl
  have h60 : ¬ (60 : Int) < (N.length : Int) := of_decide_eq_false (by assumption)
  rw [if_neg (by omega)] at hK
  conv => whnf
  refine loop_live [1, 3, 16, 17] (σ := Nat × Int × Ents) (fun s => [(18, .int .i64 s.1), (4, .int .i64 s.2.1)]) (fun s => [.box [.sl nodeV N], .mp 173 4 .pair V.lit s.2.2]) (fun s => s.1 ≤ N.length ∧ nodesGo N s.1 (N.drop s.1) s.2.1 s.2.2 = nodesGo N 0 N 0 [] ∧ 0 ≤ s.2.1 ∧ s.2.1 ≤ 5 * s.1) (fun s => N.length - s.1) (0, 0, []) ?_
  conv => whnf
  refine ⟨(by (refine wk_auto ?_; refine Sel4.mk rfl rfl ?_ ?_ <;> (repeat' (first | exact True.intro | exact rfl | exact Or.inl rfl | exact Or.inr rfl | refine And.intro ?_ ?_ | fail)))), ⟨Nat.zero_le _, rfl, by decide, by decide⟩, fun s hs => ?_⟩
  obtain ⟨i, o, u⟩ := s
  obtain ⟨hi, hgo, ho1, ho2⟩ := hs
  dsimp only at hi hgo ho1 ho2
  repeat' (first | exact True.intro | refine ⟨_, LeL.refl _, ?_⟩ | refine ⟨_, _, _, LeL.refl _, ?_⟩ | (refine fun (b : Bool) hb => ?_; cases b <;> (first | exact absurd hb (by decide) | exact Bool.noConfusion (show true = false from hb) | exact Bool.noConfusion (show false = true from hb) | skip)) | (refine fun (hl : _ ≤ MAXL) => ?_) | refine And.intro (a := I64 _) ?_ ?_ | refine And.intro (a := _ ≤ 140737488355328) ?_ ?_ | refine ⟨_, ⟨rfl, rfl⟩, ?_⟩ | refine ⟨_, And.intro (a := I64 _) ?_ ⟨rfl, rfl⟩, ?_⟩ | refine ⟨_, _, ⟨rfl, rfl⟩, ?_⟩ | refine ⟨_, (fun _ => ⟨rfl, rfl⟩), ?_⟩ | refine And.intro (a := chkPend _ _ _ _ _ _) ?_ ?_ | refine And.intro (a := chkPast _ _ _ _ _ _ _ _) ?_ ?_ | refine ⟨⟨rfl, rfl⟩, ?_⟩ | refine And.intro (And.intro rfl rfl) ?_ | refine ⟨True.intro, ?_⟩ | refine ⟨_, ⟨_, rfl, ?_, rfl, rfl, rfl⟩, ?_⟩ | refine ⟨_, rfl, ?_, rfl, ?_⟩ | refine ⟨_, (fun _ => rfl), rfl, ?_⟩ | refine ⟨(fun _ => rfl), ?_⟩ | refine ⟨rfl, ?_⟩ | refine Opt.a ?_ | fail)
  · have hge : ¬ (i : Int) < (N.length : Int) := of_decide_eq_false (by assumption)
    have h0 : ¬ (N.length : Int) = 0 := of_decide_eq_false (by assumption)
    have h1 : (u.length : Int) = o := by simpa using (by assumption : (!decide ((u.length : Int) = o)) = false)
    conv => whnf
    refine hK _ (congrArg (V.int .i64) ?_)
    rw [← hgo, List.drop_eq_nil_of_le (by omega), nodesGo, if_neg (by omega)]
  · have hge : ¬ (i : Int) < (N.length : Int) := of_decide_eq_false (by assumption)
    have h1 : ¬ (u.length : Int) = o := by simpa using (by assumption : (!decide ((u.length : Int) = o)) = true)
    conv => whnf
    refine hK _ (congrArg (V.int .i64) ?_)
    rw [← hgo, List.drop_eq_nil_of_le (by omega), nodesGo, if_pos (.inr h1)]
  · have hge : ¬ (i : Int) < (N.length : Int) := of_decide_eq_false (by assumption)
    have h0 : (N.length : Int) = 0 := of_decide_eq_true (by assumption)
    conv => whnf
    refine hK _ (congrArg (V.int .i64) ?_)
    rw [← hgo, List.drop_eq_nil_of_le (by omega), nodesGo, if_pos (.inl (by omega))]
  · have h : (i : Int) < (N.length : Int) := of_decide_eq_true (by assumption)
    show i < N.length
    omega
  have hlt : i < N.length := by
    have h : (i : Int) < (N.length : Int) := of_decide_eq_true (by assumption)
    omega
  rw [nodesGo_at hlt] at hgo
  conv => whnf
  refine ⟨N[i], rfl, ?_⟩
  repeat' (first | exact True.intro | refine ⟨_, LeL.refl _, ?_⟩ | refine ⟨_, _, _, LeL.refl _, ?_⟩ | (refine fun (b : Bool) hb => ?_; cases b <;> (first | exact absurd hb (by decide) | exact Bool.noConfusion (show true = false from hb) | exact Bool.noConfusion (show false = true from hb) | skip)) | (refine fun (hl : _ ≤ MAXL) => ?_) | refine And.intro (a := I64 _) ?_ ?_ | refine And.intro (a := _ ≤ 140737488355328) ?_ ?_ | refine ⟨_, ⟨rfl, rfl⟩, ?_⟩ | refine ⟨_, And.intro (a := I64 _) ?_ ⟨rfl, rfl⟩, ?_⟩ | refine ⟨_, _, ⟨rfl, rfl⟩, ?_⟩ | refine ⟨_, (fun _ => ⟨rfl, rfl⟩), ?_⟩ | refine And.intro (a := chkPend _ _ _ _ _ _) ?_ ?_ | refine And.intro (a := chkPast _ _ _ _ _ _ _ _) ?_ ?_ | refine ⟨⟨rfl, rfl⟩, ?_⟩ | refine And.intro (And.intro rfl rfl) ?_ | refine ⟨True.intro, ?_⟩ | refine ⟨_, ⟨_, rfl, ?_, rfl, rfl, rfl⟩, ?_⟩ | refine ⟨_, rfl, ?_, rfl, ?_⟩ | refine ⟨_, (fun _ => rfl), rfl, ?_⟩ | refine ⟨(fun _ => rfl), ?_⟩ | refine ⟨rfl, ?_⟩ | refine Opt.a ?_ | fail)
  rotate_left
  · have hcn : ¬ checkN N[i] = 0 := by simpa using (by assumption : (!decide (checkN N[i] = 0)) = true)
    rw [if_pos hcn] at hgo
    conv => whnf
    exact hK _ (congrArg (V.int .i64) hgo)
  have hcn : checkN N[i] = 0 := by simpa using (by assumption : (!decide (checkN N[i] = 0)) = false)
  rw [if_neg (fun h => h hcn)] at hgo
  obtain ⟨ho3, ho4⟩ := outsN_bnd hcn
  conv => whnf
  refine loop_live [1, 3, 4, 5, 6, 16, 17, 18, 29, 30] (σ := Nat × Ents) (fun s => [(31, .int .i64 s.1)]) (fun s => [.box [.sl nodeV N], .mp 173 4 .pair V.lit s.2, .box (nodeV N[i]).cells]) (fun s => s.1 ≤ N[i].ins.length ∧ portsGo N i (N[i].ins.drop s.1) s.2 = portsGo N i N[i].ins u) (fun s => N[i].ins.length - s.1) (0, u) ?_
  conv => whnf
  refine ⟨(by (refine wk_auto ?_; refine Sel4.mk rfl rfl ?_ ?_ <;> (repeat' (first | exact True.intro | exact rfl | exact Or.inl rfl | exact Or.inr rfl | refine And.intro ?_ ?_ | fail)))), ⟨Nat.zero_le _, rfl⟩, fun s hs => ?_⟩
  obtain ⟨j, v⟩ := s
  obtain ⟨hj, hpg⟩ := hs
  dsimp only at hj hpg
  repeat' (first | exact True.intro | refine ⟨_, LeL.refl _, ?_⟩ | refine ⟨_, _, _, LeL.refl _, ?_⟩ | (refine fun (b : Bool) hb => ?_; cases b <;> (first | exact absurd hb (by decide) | exact Bool.noConfusion (show true = false from hb) | exact Bool.noConfusion (show false = true from hb) | skip)) | (refine fun (hl : _ ≤ MAXL) => ?_) | refine And.intro (a := I64 _) ?_ ?_ | refine And.intro (a := _ ≤ 140737488355328) ?_ ?_ | refine ⟨_, ⟨rfl, rfl⟩, ?_⟩ | refine ⟨_, And.intro (a := I64 _) ?_ ⟨rfl, rfl⟩, ?_⟩ | refine ⟨_, _, ⟨rfl, rfl⟩, ?_⟩ | refine ⟨_, (fun _ => ⟨rfl, rfl⟩), ?_⟩ | refine And.intro (a := chkPend _ _ _ _ _ _) ?_ ?_ | refine And.intro (a := chkPast _ _ _ _ _ _ _ _) ?_ ?_ | refine ⟨⟨rfl, rfl⟩, ?_⟩ | refine And.intro (And.intro rfl rfl) ?_ | refine ⟨True.intro, ?_⟩ | refine ⟨_, ⟨_, rfl, ?_, rfl, rfl, rfl⟩, ?_⟩ | refine ⟨_, rfl, ?_, rfl, ?_⟩ | refine ⟨_, (fun _ => rfl), rfl, ?_⟩ | refine ⟨(fun _ => rfl), ?_⟩ | refine ⟨rfl, ?_⟩ | refine Opt.a ?_ | fail)
  · unfold I64; omega
  · have hge : ¬ (j : Int) < (N[i].ins.length : Int) := of_decide_eq_false (by assumption)
    have h5 := (by assumption : (!decide (N[i].kind = 5) == decide ((i : Int) = (N.length : Int) - 1)) = false)
    have h6 : decide (N[i].kind = 5) = decide ((i : Int) = (N.length : Int) - 1) := by simpa using h5
    rw [List.drop_eq_nil_of_le (by omega), portsGo] at hpg
    rw [← hpg, if_neg (fun h => h rfl), if_neg (fun h => h h6)] at hgo
    conv => whnf
    refine ⟨N[i], rfl, ?_⟩
    repeat' (first | exact True.intro | refine ⟨_, LeL.refl _, ?_⟩ | refine ⟨_, _, _, LeL.refl _, ?_⟩ | (refine fun (b : Bool) hb => ?_; cases b <;> (first | exact absurd hb (by decide) | exact Bool.noConfusion (show true = false from hb) | exact Bool.noConfusion (show false = true from hb) | skip)) | (refine fun (hl : _ ≤ MAXL) => ?_) | refine And.intro (a := I64 _) ?_ ?_ | refine And.intro (a := _ ≤ 140737488355328) ?_ ?_ | refine ⟨_, ⟨rfl, rfl⟩, ?_⟩ | refine ⟨_, And.intro (a := I64 _) ?_ ⟨rfl, rfl⟩, ?_⟩ | refine ⟨_, _, ⟨rfl, rfl⟩, ?_⟩ | refine ⟨_, (fun _ => ⟨rfl, rfl⟩), ?_⟩ | refine And.intro (a := chkPend _ _ _ _ _ _) ?_ ?_ | refine And.intro (a := chkPast _ _ _ _ _ _ _ _) ?_ ?_ | refine ⟨⟨rfl, rfl⟩, ?_⟩ | refine And.intro (And.intro rfl rfl) ?_ | refine ⟨True.intro, ?_⟩ | refine ⟨_, ⟨_, rfl, ?_, rfl, rfl, rfl⟩, ?_⟩ | refine ⟨_, rfl, ?_, rfl, ?_⟩ | refine ⟨_, (fun _ => rfl), rfl, ?_⟩ | refine ⟨(fun _ => rfl), ?_⟩ | refine ⟨rfl, ?_⟩ | refine Opt.a ?_ | fail)
    · show I64 (o + outsN N[i])
      unfold I64; omega
    · show I64 ((i : Int) + 1)
      unfold I64; omega
    conv => whnf
    exact ⟨(i + 1, o + outsN N[i], v), (by (refine wk_auto ?_; refine Sel4.mk rfl rfl ?_ ?_ <;> (repeat' (first | exact True.intro | exact rfl | exact Or.inl rfl | exact Or.inr rfl | refine And.intro ?_ ?_ | fail)))), ⟨hlt, hgo, by dsimp only; omega, by dsimp only; omega⟩, by show N.length - (i + 1) < N.length - i; omega⟩
  · have hge : ¬ (j : Int) < (N[i].ins.length : Int) := of_decide_eq_false (by assumption)
    have h5 := (by assumption : (!decide (N[i].kind = 5) == decide ((i : Int) = (N.length : Int) - 1)) = true)
    have h6 : ¬ decide (N[i].kind = 5) = decide ((i : Int) = (N.length : Int) - 1) := by simpa using h5
    rw [List.drop_eq_nil_of_le (by omega), portsGo] at hpg
    rw [← hpg, if_neg (fun h => h rfl), if_pos h6] at hgo
    conv => whnf
    refine hK _ (congrArg (V.int .i64) ?_)
    exact hgo
  · have h : (j : Int) < (N[i].ins.length : Int) := of_decide_eq_true (by assumption)
    show j < N[i].ins.length
    omega
  have hjl : j < N[i].ins.length := by
    have h : (j : Int) < (N[i].ins.length : Int) := of_decide_eq_true (by assumption)
    omega
  rw [portsGo_at hjl] at hpg
  obtain ⟨p, hp⟩ : ∃ p, N[i].ins[j] = p := ⟨_, rfl⟩
  rw [hp] at hpg
  conv => whnf
  refine join_live [1, 3, 4, 5, 6, 9, 16, 17, 18, 29, 30, 31] (σ := Unit) (fun _ => []) (fun _ => [.box [.sl nodeV N], .mp 173 4 .pair V.lit v, .box (nodeV N[i]).cells, .box [.int .i64 p.node, .int .i64 p.out]]) (fun _ => ¬ (p.node < 0 ∨ (i : Int) ≤ p.node ∨ p.out < 0 ∨ outsN (N.getD p.node.toNat ⟨0, [], zCmd, 0, 0, []⟩) ≤ p.out)) ?_
  conv => whnf
  refine ⟨?_, fun _ hok => ?_⟩
  · rw [hp]
    repeat' (first | exact True.intro | refine ⟨_, LeL.refl _, ?_⟩ | refine ⟨_, _, _, LeL.refl _, ?_⟩ | (refine fun (b : Bool) hb => ?_; cases b <;> (first | exact absurd hb (by decide) | exact Bool.noConfusion (show true = false from hb) | exact Bool.noConfusion (show false = true from hb) | skip)) | (refine fun (hl : _ ≤ MAXL) => ?_) | refine And.intro (a := I64 _) ?_ ?_ | refine And.intro (a := _ ≤ 140737488355328) ?_ ?_ | refine ⟨_, ⟨rfl, rfl⟩, ?_⟩ | refine ⟨_, And.intro (a := I64 _) ?_ ⟨rfl, rfl⟩, ?_⟩ | refine ⟨_, _, ⟨rfl, rfl⟩, ?_⟩ | refine ⟨_, (fun _ => ⟨rfl, rfl⟩), ?_⟩ | refine And.intro (a := chkPend _ _ _ _ _ _) ?_ ?_ | refine And.intro (a := chkPast _ _ _ _ _ _ _ _) ?_ ?_ | refine ⟨⟨rfl, rfl⟩, ?_⟩ | refine And.intro (And.intro rfl rfl) ?_ | refine ⟨True.intro, ?_⟩ | refine ⟨_, ⟨_, rfl, ?_, rfl, rfl, rfl⟩, ?_⟩ | refine ⟨_, rfl, ?_, rfl, ?_⟩ | refine ⟨_, (fun _ => rfl), rfl, ?_⟩ | refine ⟨(fun _ => rfl), ?_⟩ | refine ⟨rfl, ?_⟩ | refine Opt.a ?_ | fail)
    · have h1 : ¬ p.node < 0 := of_decide_eq_false (by assumption)
      have h2 : ¬ (i : Int) ≤ p.node := of_decide_eq_false (by assumption)
      have h3 : ¬ p.out < 0 := of_decide_eq_false (by assumption)
      obtain ⟨k, hk⟩ : ∃ k : Nat, p.node = k := ⟨p.node.toNat, by omega⟩
      have hkN : k < N.length := by omega
      have hgk : N.getD p.node.toNat ⟨0, [], zCmd, 0, 0, []⟩ = N[k] := by
        rw [hk, Int.toNat_natCast, List.getD_eq_getElem?_getD, List.getElem?_eq_getElem hkN]
        rfl
      conv => whnf
      refine ⟨_, ⟨k, hk, hkN, rfl, rfl, rfl⟩, ?_⟩
      repeat' (first | exact True.intro | refine ⟨_, LeL.refl _, ?_⟩ | refine ⟨_, _, _, LeL.refl _, ?_⟩ | (refine fun (b : Bool) hb => ?_; cases b <;> (first | exact absurd hb (by decide) | exact Bool.noConfusion (show true = false from hb) | exact Bool.noConfusion (show false = true from hb) | skip)) | (refine fun (hl : _ ≤ MAXL) => ?_) | refine And.intro (a := I64 _) ?_ ?_ | refine And.intro (a := _ ≤ 140737488355328) ?_ ?_ | refine ⟨_, ⟨rfl, rfl⟩, ?_⟩ | refine ⟨_, And.intro (a := I64 _) ?_ ⟨rfl, rfl⟩, ?_⟩ | refine ⟨_, _, ⟨rfl, rfl⟩, ?_⟩ | refine ⟨_, (fun _ => ⟨rfl, rfl⟩), ?_⟩ | refine And.intro (a := chkPend _ _ _ _ _ _) ?_ ?_ | refine And.intro (a := chkPast _ _ _ _ _ _ _ _) ?_ ?_ | refine ⟨⟨rfl, rfl⟩, ?_⟩ | refine And.intro (And.intro rfl rfl) ?_ | refine ⟨True.intro, ?_⟩ | refine ⟨_, ⟨_, rfl, ?_, rfl, rfl, rfl⟩, ?_⟩ | refine ⟨_, rfl, ?_, rfl, ?_⟩ | refine ⟨_, (fun _ => rfl), rfl, ?_⟩ | refine ⟨(fun _ => rfl), ?_⟩ | refine ⟨rfl, ?_⟩ | refine Opt.a ?_ | fail)
      apply Exists.intro
      apply And.intro
      · refine ⟨N[k], rfl, ?_⟩
        exact ⟨rfl, rfl⟩
      repeat' (first | exact True.intro | refine ⟨_, LeL.refl _, ?_⟩ | refine ⟨_, _, _, LeL.refl _, ?_⟩ | (refine fun (b : Bool) hb => ?_; cases b <;> (first | exact absurd hb (by decide) | exact Bool.noConfusion (show true = false from hb) | exact Bool.noConfusion (show false = true from hb) | skip)) | (refine fun (hl : _ ≤ MAXL) => ?_) | refine And.intro (a := I64 _) ?_ ?_ | refine And.intro (a := _ ≤ 140737488355328) ?_ ?_ | refine ⟨_, ⟨rfl, rfl⟩, ?_⟩ | refine ⟨_, And.intro (a := I64 _) ?_ ⟨rfl, rfl⟩, ?_⟩ | refine ⟨_, _, ⟨rfl, rfl⟩, ?_⟩ | refine ⟨_, (fun _ => ⟨rfl, rfl⟩), ?_⟩ | refine And.intro (a := chkPend _ _ _ _ _ _) ?_ ?_ | refine And.intro (a := chkPast _ _ _ _ _ _ _ _) ?_ ?_ | refine ⟨⟨rfl, rfl⟩, ?_⟩ | refine And.intro (And.intro rfl rfl) ?_ | refine ⟨True.intro, ?_⟩ | refine ⟨_, ⟨_, rfl, ?_, rfl, rfl, rfl⟩, ?_⟩ | refine ⟨_, rfl, ?_, rfl, ?_⟩ | refine ⟨_, (fun _ => rfl), rfl, ?_⟩ | refine ⟨(fun _ => rfl), ?_⟩ | refine ⟨rfl, ?_⟩ | refine Opt.a ?_ | fail)
      · have h4 : ¬ outsN N[k] ≤ p.out := of_decide_eq_false (by assumption)
        conv => whnf
        exact ⟨(), (by (refine wk_auto ?_; refine Sel4.mk rfl rfl ?_ ?_ <;> (repeat' (first | exact True.intro | exact rfl | exact Or.inl rfl | exact Or.inr rfl | refine And.intro ?_ ?_ | fail)))), by rw [hgk]; omega⟩
      · have h4 : outsN N[k] ≤ p.out := of_decide_eq_true (by assumption)
        rw [hgk, if_pos (by omega)] at hpg
        rw [← hpg, if_pos (show (5 : Int) ≠ 0 by decide)] at hgo
        conv => whnf
        refine hK _ (congrArg (V.int .i64) ?_)
        exact hgo
    · have h4 : p.out < 0 := of_decide_eq_true (by assumption)
      rw [if_pos (by omega)] at hpg
      rw [← hpg, if_pos (show (5 : Int) ≠ 0 by decide)] at hgo
      conv => whnf
      refine hK _ (congrArg (V.int .i64) ?_)
      exact hgo
    · have h4 : (i : Int) ≤ p.node := of_decide_eq_true (by assumption)
      rw [if_pos (by omega)] at hpg
      rw [← hpg, if_pos (show (5 : Int) ≠ 0 by decide)] at hgo
      conv => whnf
      refine hK _ (congrArg (V.int .i64) ?_)
      exact hgo
    · have h4 : p.node < 0 := of_decide_eq_true (by assumption)
      rw [if_pos (by omega)] at hpg
      rw [← hpg, if_pos (show (5 : Int) ≠ 0 by decide)] at hgo
      conv => whnf
      refine hK _ (congrArg (V.int .i64) ?_)
      exact hgo
  · rw [if_neg hok] at hpg
    obtain ⟨q, hq⟩ : ∃ q, mget false v [p.node, p.out] = q := ⟨_, rfl⟩
    rw [hq] at hpg
    conv => whnf
    refine ⟨false, rfl, ?_⟩
    conv =>
      arg 1
      rw [hq]
    cases q
    · rw [if_neg (by decide)] at hpg
      repeat' (first | exact True.intro | refine ⟨_, LeL.refl _, ?_⟩ | refine ⟨_, _, _, LeL.refl _, ?_⟩ | (refine fun (b : Bool) hb => ?_; cases b <;> (first | exact absurd hb (by decide) | exact Bool.noConfusion (show true = false from hb) | exact Bool.noConfusion (show false = true from hb) | skip)) | (refine fun (hl : _ ≤ MAXL) => ?_) | refine And.intro (a := I64 _) ?_ ?_ | refine And.intro (a := _ ≤ 140737488355328) ?_ ?_ | refine ⟨_, ⟨rfl, rfl⟩, ?_⟩ | refine ⟨_, And.intro (a := I64 _) ?_ ⟨rfl, rfl⟩, ?_⟩ | refine ⟨_, _, ⟨rfl, rfl⟩, ?_⟩ | refine ⟨_, (fun _ => ⟨rfl, rfl⟩), ?_⟩ | refine And.intro (a := chkPend _ _ _ _ _ _) ?_ ?_ | refine And.intro (a := chkPast _ _ _ _ _ _ _ _) ?_ ?_ | refine ⟨⟨rfl, rfl⟩, ?_⟩ | refine And.intro (And.intro rfl rfl) ?_ | refine ⟨True.intro, ?_⟩ | refine ⟨_, ⟨_, rfl, ?_, rfl, rfl, rfl⟩, ?_⟩ | refine ⟨_, rfl, ?_, rfl, ?_⟩ | refine ⟨_, (fun _ => rfl), rfl, ?_⟩ | refine ⟨(fun _ => rfl), ?_⟩ | refine ⟨rfl, ?_⟩ | refine Opt.a ?_ | fail)
      · rfl
      · have hm := (by assumption : N[i].ins.length ≤ MAXL)
        unfold MAXL at hm
        unfold I64; (try dsimp only); omega
      conv => whnf
      exact ⟨(j + 1, mput v [p.node, p.out] true), (by (refine wk_auto ?_; refine Sel4.mk rfl rfl ?_ ?_ <;> (repeat' (first | exact True.intro | exact rfl | exact Or.inl rfl | exact Or.inr rfl | refine And.intro ?_ ?_ | fail)))), ⟨hjl, hpg⟩, by show N[i].ins.length - (j + 1) < N[i].ins.length - j; omega⟩
    · rw [if_pos rfl] at hpg
      rw [← hpg, if_pos (show (6 : Int) ≠ 0 by decide)] at hgo
      conv => whnf
      refine hK _ (congrArg (V.int .i64) ?_)
      exact hgo
end Gv
namespace Gv
variable [Glob] [Laid]
theorem cfiles_ca : callable Tryz.prog 89 = true := by kernel_rfl
def cfiles_S : Spec := fun args K => ∃ l : List FileS, args = [.sl fileV l] ∧ K (.int .i64 (checkFiles l))
noncomputable def cfiles_lib : List (Nat × Spec) := [(32, word_S)]
noncomputable def cfiles_fns : List (Nat × FnI) := []
noncomputable def cfiles_prims : List (Nat × PSpec) := []
theorem cfiles_E : EnvOK ⟨Tryz.prog, tys, cfiles_lib, cfiles_fns, cfiles_prims, []⟩ := env_ok mixed0 tys0 (.cons word_ca word_ok .nil) .nil .nil rfl
set_option maxHeartbeats 8000000 in
theorem cfiles_ok : Pure Tryz.prog 89 cfiles_S := by
  refine pure_by cfiles_E 6 (fi := {fn := Tryz.f89, hooks := [], draws := [(10, [0, 1, 3, 7, 7, 23, 63, 127, 255, 7, 519, 2047, 4095])]}) ⟨Tryz.func89, by kernel_rfl, by kernel_rfl⟩ ?_
  rintro _ K ⟨l, rfl, hK⟩
  replace hK : ∀ r, r = .int .i64 (checkFiles l) → K r := fun r h => h ▸ hK
  repeat' (first | exact True.intro | refine ⟨_, LeL.refl _, ?_⟩ | refine ⟨_, _, _, LeL.refl _, ?_⟩ | (refine fun (b : Bool) hb => ?_; cases b <;> (first | exact absurd hb (by decide) | exact Bool.noConfusion (show true = false from hb) | exact Bool.noConfusion (show false = true from hb) | skip)) | (refine fun (hl : _ ≤ MAXL) => ?_) | refine And.intro (a := I64 _) ?_ ?_ | refine And.intro (a := _ ≤ 140737488355328) ?_ ?_ | refine ⟨_, ⟨rfl, rfl⟩, ?_⟩ | refine ⟨_, And.intro (a := I64 _) ?_ ⟨rfl, rfl⟩, ?_⟩ | refine ⟨_, _, ⟨rfl, rfl⟩, ?_⟩ | refine ⟨_, (fun _ => ⟨rfl, rfl⟩), ?_⟩ | refine And.intro (a := chkPend _ _ _ _ _ _) ?_ ?_ | refine And.intro (a := chkPast _ _ _ _ _ _ _ _) ?_ ?_ | refine ⟨⟨rfl, rfl⟩, ?_⟩ | refine And.intro (And.intro rfl rfl) ?_ | refine ⟨True.intro, ?_⟩ | refine ⟨_, ⟨_, rfl, ?_, rfl, rfl, rfl⟩, ?_⟩ | refine ⟨_, rfl, ?_, rfl, ?_⟩ | refine ⟨_, (fun _ => rfl), rfl, ?_⟩ | refine ⟨(fun _ => rfl), ?_⟩ | refine ⟨rfl, ?_⟩ | refine Opt.a ?_ | fail)
  rotate_left
  · refine hK _ ?_
    have h := of_decide_eq_true (by assumption : decide ((12 : Int) < (l.length : Int)) = true)
    unfold checkFiles
    rw [if_pos (by omega)]
  have h12 : ¬ 12 < l.length := by
    have h := of_decide_eq_false (by assumption : decide ((12 : Int) < (l.length : Int)) = false)
    omega
  have hcf : checkFiles l = filesGo none l := by unfold checkFiles; rw [if_neg h12]
  rw [hcf] at hK
  conv => whnf
  refine loop_live [0, 8, 9] (σ := Nat) (fun i => [(10, .int .i64 i)]) (fun i => []) (fun i => i ≤ l.length ∧ filesGo (prevN l i) (l.drop i) = filesGo none l) (fun i => l.length - i) 0 ?_
  conv => whnf
  refine ⟨(by (refine wk_auto ?_; refine Sel4.mk rfl rfl ?_ ?_ <;> (repeat' (first | exact True.intro | exact rfl | exact Or.inl rfl | exact Or.inr rfl | refine And.intro ?_ ?_ | fail)))), ⟨Nat.zero_le _, rfl⟩, fun i hi => ?_⟩
  obtain ⟨hi, hg⟩ := hi
  repeat' (first | exact True.intro | refine ⟨_, LeL.refl _, ?_⟩ | refine ⟨_, _, _, LeL.refl _, ?_⟩ | (refine fun (b : Bool) hb => ?_; cases b <;> (first | exact absurd hb (by decide) | exact Bool.noConfusion (show true = false from hb) | exact Bool.noConfusion (show false = true from hb) | skip)) | (refine fun (hl : _ ≤ MAXL) => ?_) | refine And.intro (a := I64 _) ?_ ?_ | refine And.intro (a := _ ≤ 140737488355328) ?_ ?_ | refine ⟨_, ⟨rfl, rfl⟩, ?_⟩ | refine ⟨_, And.intro (a := I64 _) ?_ ⟨rfl, rfl⟩, ?_⟩ | refine ⟨_, _, ⟨rfl, rfl⟩, ?_⟩ | refine ⟨_, (fun _ => ⟨rfl, rfl⟩), ?_⟩ | refine And.intro (a := chkPend _ _ _ _ _ _) ?_ ?_ | refine And.intro (a := chkPast _ _ _ _ _ _ _ _) ?_ ?_ | refine ⟨⟨rfl, rfl⟩, ?_⟩ | refine And.intro (And.intro rfl rfl) ?_ | refine ⟨True.intro, ?_⟩ | refine ⟨_, ⟨_, rfl, ?_, rfl, rfl, rfl⟩, ?_⟩ | refine ⟨_, rfl, ?_, rfl, ?_⟩ | refine ⟨_, (fun _ => rfl), rfl, ?_⟩ | refine ⟨(fun _ => rfl), ?_⟩ | refine ⟨rfl, ?_⟩ | refine Opt.a ?_ | fail)
  · have h := of_decide_eq_false (by assumption : decide ((i : Int) < (l.length : Int)) = false)
    have e : l.drop i = [] := List.drop_eq_nil_of_le (by omega)
    rw [e] at hg
    conv => whnf
    refine hK _ ?_
    rw [← hg]
    rfl
  · have h := of_decide_eq_true (by assumption : decide ((i : Int) < (l.length : Int)) = true)
    show i < l.length
    omega
  have hlt : i < l.length := by
    have h := of_decide_eq_true (by assumption : decide ((i : Int) < (l.length : Int)) = true)
    omega
  rw [filesGo_at hlt] at hg
  refine ⟨l[i].name, rfl, ?_⟩
  repeat' (first | exact True.intro | refine ⟨_, LeL.refl _, ?_⟩ | refine ⟨_, _, _, LeL.refl _, ?_⟩ | (refine fun (b : Bool) hb => ?_; cases b <;> (first | exact absurd hb (by decide) | exact Bool.noConfusion (show true = false from hb) | exact Bool.noConfusion (show false = true from hb) | skip)) | (refine fun (hl : _ ≤ MAXL) => ?_) | refine And.intro (a := I64 _) ?_ ?_ | refine And.intro (a := _ ≤ 140737488355328) ?_ ?_ | refine ⟨_, ⟨rfl, rfl⟩, ?_⟩ | refine ⟨_, And.intro (a := I64 _) ?_ ⟨rfl, rfl⟩, ?_⟩ | refine ⟨_, _, ⟨rfl, rfl⟩, ?_⟩ | refine ⟨_, (fun _ => ⟨rfl, rfl⟩), ?_⟩ | refine And.intro (a := chkPend _ _ _ _ _ _) ?_ ?_ | refine And.intro (a := chkPast _ _ _ _ _ _ _ _) ?_ ?_ | refine ⟨⟨rfl, rfl⟩, ?_⟩ | refine And.intro (And.intro rfl rfl) ?_ | refine ⟨True.intro, ?_⟩ | refine ⟨_, ⟨_, rfl, ?_, rfl, rfl, rfl⟩, ?_⟩ | refine ⟨_, rfl, ?_, rfl, ?_⟩ | refine ⟨_, (fun _ => rfl), rfl, ?_⟩ | refine ⟨(fun _ => rfl), ?_⟩ | refine ⟨rfl, ?_⟩ | refine Opt.a ?_ | fail)
  · unfold I64; omega
  · have h1 : isWord l[i].name = true := by
      have h : (!isWord l[i].name) = false := by assumption
      simpa using h
    have h2 : ¬ (4000 : Int) < (l[i].b.length : Int) := of_decide_eq_false (by assumption)
    have h3 : ¬ (0 : Int) < (i : Int) := of_decide_eq_false (by assumption)
    have e0 : i = 0 := by omega
    have h4 : notRise (prevN l i) l[i].name = false := by
      have : prevN l i = none := by unfold prevN; rw [if_pos e0]
      rw [this]; rfl
    rw [if_neg (by rw [h1]; decide), if_neg (by omega), if_neg (by rw [h4]; decide)] at hg
    exact ⟨i + 1, (by (refine wk_auto ?_; refine Sel4.mk rfl rfl ?_ ?_ <;> (repeat' (first | exact True.intro | exact rfl | exact Or.inl rfl | exact Or.inr rfl | refine And.intro ?_ ?_ | fail)))), ⟨hlt, hg⟩, by omega⟩
  · unfold I64; omega
  · have h1 : isWord l[i].name = true := by
      have h : (!isWord l[i].name) = false := by assumption
      simpa using h
    have h2 : ¬ (4000 : Int) < (l[i].b.length : Int) := of_decide_eq_false (by assumption)
    have h3 : (0 : Int) < (i : Int) := of_decide_eq_true (by assumption)
    have hp : prevN l i = some (l[i - 1]'(by omega)).name := by
      unfold prevN
      rw [if_neg (by omega), List.getD_eq_getElem?_getD, List.getElem?_eq_getElem (by omega)]
      rfl
    rw [if_neg (by rw [h1]; decide), if_neg (by omega), hp] at hg
    conv => whnf
    refine ⟨_, ⟨i - 1, by omega, by omega, rfl, rfl, rfl⟩, ?_⟩
    repeat' (first | exact True.intro | refine ⟨_, LeL.refl _, ?_⟩ | refine ⟨_, _, _, LeL.refl _, ?_⟩ | (refine fun (b : Bool) hb => ?_; cases b <;> (first | exact absurd hb (by decide) | exact Bool.noConfusion (show true = false from hb) | exact Bool.noConfusion (show false = true from hb) | skip)) | (refine fun (hl : _ ≤ MAXL) => ?_) | refine And.intro (a := I64 _) ?_ ?_ | refine And.intro (a := _ ≤ 140737488355328) ?_ ?_ | refine ⟨_, ⟨rfl, rfl⟩, ?_⟩ | refine ⟨_, And.intro (a := I64 _) ?_ ⟨rfl, rfl⟩, ?_⟩ | refine ⟨_, _, ⟨rfl, rfl⟩, ?_⟩ | refine ⟨_, (fun _ => ⟨rfl, rfl⟩), ?_⟩ | refine And.intro (a := chkPend _ _ _ _ _ _) ?_ ?_ | refine And.intro (a := chkPast _ _ _ _ _ _ _ _) ?_ ?_ | refine ⟨⟨rfl, rfl⟩, ?_⟩ | refine And.intro (And.intro rfl rfl) ?_ | refine ⟨True.intro, ?_⟩ | refine ⟨_, ⟨_, rfl, ?_, rfl, rfl, rfl⟩, ?_⟩ | refine ⟨_, rfl, ?_, rfl, ?_⟩ | refine ⟨_, (fun _ => rfl), rfl, ?_⟩ | refine ⟨(fun _ => rfl), ?_⟩ | refine ⟨rfl, ?_⟩ | refine Opt.a ?_ | fail)
    · unfold I64; omega
    · have h4 : notRise (some (l[i - 1]'(by omega)).name) l[i].name = false := by
        have h : (!Op.bytesLess (l[i - 1]'(by omega)).name l[i].name) = false := by assumption
        exact h
      rw [if_neg (by rw [h4]; decide)] at hg
      exact ⟨i + 1, (by (refine wk_auto ?_; refine Sel4.mk rfl rfl ?_ ?_ <;> (repeat' (first | exact True.intro | exact rfl | exact Or.inl rfl | exact Or.inr rfl | refine And.intro ?_ ?_ | fail)))), ⟨hlt, hg⟩, by omega⟩
    · have h4 : notRise (some (l[i - 1]'(by omega)).name) l[i].name = true := by
        have h : (!Op.bytesLess (l[i - 1]'(by omega)).name l[i].name) = true := by assumption
        exact h
      rw [if_pos h4] at hg
      conv => whnf
      exact hK _ (by rw [← hg])
  · have h1 : isWord l[i].name = true := by
      have h : (!isWord l[i].name) = false := by assumption
      simpa using h
    have h2 : (4000 : Int) < (l[i].b.length : Int) := of_decide_eq_true (by assumption)
    rw [if_neg (by rw [h1]; decide), if_pos (by omega)] at hg
    conv => whnf
    exact hK _ (by rw [← hg])
  · have h1 : isWord l[i].name = false := by
      have h : (!isWord l[i].name) = true := by assumption
      simpa using h
    rw [if_pos h1] at hg
    conv => whnf
    exact hK _ (by rw [← hg])
end Gv
namespace Gv
variable [Glob] [Laid]
theorem placeF_ca : callable Tryz.prog 125 = true := by kernel_rfl
def placeF_S : Spec := fun args K => ∃ (l : List FileS) (n : Bs), args = [.sl fileV l, .str n] ∧ K (.tup [.int .i64 (placeI l n : Nat), .bool (isAt l n)])
noncomputable def placeF_lib : List (Nat × Spec) := []
noncomputable def placeF_fns : List (Nat × FnI) := [(128, {fn := Tryz.f128, hooks := [], draws := []}), (181, {fn := Tryz.f181, hooks := [], draws := []})]
noncomputable def placeF_prims : List (Nat × PSpec) := []
theorem placeF_E : EnvOK ⟨Tryz.prog, tys, placeF_lib, placeF_fns, placeF_prims, []⟩ := env_ok mixed0 tys0 .nil (.cons (by kernel_rfl) ⟨Tryz.func128, by kernel_rfl, by kernel_rfl⟩ (.cons (by kernel_rfl) ⟨Tryz.func181, by kernel_rfl, by kernel_rfl⟩ .nil)) .nil rfl
set_option maxHeartbeats 8000000 in
theorem placeF_ok : Pure Tryz.prog 125 placeF_S := by
  refine pure_by placeF_E 6 (fi := {fn := Tryz.f125, hooks := [], draws := [(4, [0, 0, 0, 6, 14, 30, 0, 126, 1, 511])]}) ⟨Tryz.func125, by kernel_rfl, by kernel_rfl⟩ ?_
  rintro _ K ⟨l, n, rfl, hK⟩
  replace hK : ∀ r, r = .tup [.int .i64 (placeI l n : Nat), .bool (isAt l n)] → K r := fun r h => h ▸ hK
  repeat' (first | exact True.intro | refine ⟨_, LeL.refl _, ?_⟩ | refine ⟨_, _, _, LeL.refl _, ?_⟩ | (refine fun (b : Bool) hb => ?_; cases b <;> (first | exact absurd hb (by decide) | exact Bool.noConfusion (show true = false from hb) | exact Bool.noConfusion (show false = true from hb) | skip)) | (refine fun (hl : _ ≤ MAXL) => ?_) | refine And.intro (a := I64 _) ?_ ?_ | refine And.intro (a := _ ≤ 140737488355328) ?_ ?_ | refine ⟨_, ⟨rfl, rfl⟩, ?_⟩ | refine ⟨_, And.intro (a := I64 _) ?_ ⟨rfl, rfl⟩, ?_⟩ | refine ⟨_, _, ⟨rfl, rfl⟩, ?_⟩ | refine ⟨_, (fun _ => ⟨rfl, rfl⟩), ?_⟩ | refine And.intro (a := chkPend _ _ _ _ _ _) ?_ ?_ | refine And.intro (a := chkPast _ _ _ _ _ _ _ _) ?_ ?_ | refine ⟨⟨rfl, rfl⟩, ?_⟩ | refine And.intro (And.intro rfl rfl) ?_ | refine ⟨True.intro, ?_⟩ | refine ⟨_, ⟨_, rfl, ?_, rfl, rfl, rfl⟩, ?_⟩ | refine ⟨_, rfl, ?_, rfl, ?_⟩ | refine ⟨_, (fun _ => rfl), rfl, ?_⟩ | refine ⟨(fun _ => rfl), ?_⟩ | refine ⟨rfl, ?_⟩ | refine Opt.a ?_ | fail)
  conv => whnf
  refine loop_live [0, 1, 7] (σ := Nat) (fun i => [(8, .int .i64 i)]) (fun i => [.box [.str n]]) (fun i => i ≤ l.length ∧ ∀ j (h : j < l.length), j < i → notLess n l[j] = false) (fun i => l.length - i) 0 ?_
  conv => whnf
  refine ⟨(by (refine wk_auto ?_; refine Sel4.mk rfl rfl ?_ ?_ <;> (repeat' (first | exact True.intro | exact rfl | exact Or.inl rfl | exact Or.inr rfl | refine And.intro ?_ ?_ | fail)))), ⟨Nat.zero_le _, fun j h h' => by omega⟩, fun i hi => ?_⟩
  obtain ⟨hi, hn⟩ := hi
  repeat' (first | exact True.intro | refine ⟨_, LeL.refl _, ?_⟩ | refine ⟨_, _, _, LeL.refl _, ?_⟩ | (refine fun (b : Bool) hb => ?_; cases b <;> (first | exact absurd hb (by decide) | exact Bool.noConfusion (show true = false from hb) | exact Bool.noConfusion (show false = true from hb) | skip)) | (refine fun (hl : _ ≤ MAXL) => ?_) | refine And.intro (a := I64 _) ?_ ?_ | refine And.intro (a := _ ≤ 140737488355328) ?_ ?_ | refine ⟨_, ⟨rfl, rfl⟩, ?_⟩ | refine ⟨_, And.intro (a := I64 _) ?_ ⟨rfl, rfl⟩, ?_⟩ | refine ⟨_, _, ⟨rfl, rfl⟩, ?_⟩ | refine ⟨_, (fun _ => ⟨rfl, rfl⟩), ?_⟩ | refine And.intro (a := chkPend _ _ _ _ _ _) ?_ ?_ | refine And.intro (a := chkPast _ _ _ _ _ _ _ _) ?_ ?_ | refine ⟨⟨rfl, rfl⟩, ?_⟩ | refine And.intro (And.intro rfl rfl) ?_ | refine ⟨True.intro, ?_⟩ | refine ⟨_, ⟨_, rfl, ?_, rfl, rfl, rfl⟩, ?_⟩ | refine ⟨_, rfl, ?_, rfl, ?_⟩ | refine ⟨_, (fun _ => rfl), rfl, ?_⟩ | refine ⟨(fun _ => rfl), ?_⟩ | refine ⟨rfl, ?_⟩ | refine Opt.a ?_ | fail)
  · have hge : ¬ (i : Int) < (l.length : Int) := of_decide_eq_false (by assumption)
    have ei : i = l.length := by omega
    have hp : placeI l n = l.length := place_end fun j hj => hn j hj (by omega)
    repeat' (first | exact True.intro | refine ⟨_, LeL.refl _, ?_⟩ | refine ⟨_, _, _, LeL.refl _, ?_⟩ | (refine fun (b : Bool) hb => ?_; cases b <;> (first | exact absurd hb (by decide) | exact Bool.noConfusion (show true = false from hb) | exact Bool.noConfusion (show false = true from hb) | skip)) | (refine fun (hl : _ ≤ MAXL) => ?_) | refine And.intro (a := I64 _) ?_ ?_ | refine And.intro (a := _ ≤ 140737488355328) ?_ ?_ | refine ⟨_, ⟨rfl, rfl⟩, ?_⟩ | refine ⟨_, And.intro (a := I64 _) ?_ ⟨rfl, rfl⟩, ?_⟩ | refine ⟨_, _, ⟨rfl, rfl⟩, ?_⟩ | refine ⟨_, (fun _ => ⟨rfl, rfl⟩), ?_⟩ | refine And.intro (a := chkPend _ _ _ _ _ _) ?_ ?_ | refine And.intro (a := chkPast _ _ _ _ _ _ _ _) ?_ ?_ | refine ⟨⟨rfl, rfl⟩, ?_⟩ | refine And.intro (And.intro rfl rfl) ?_ | refine ⟨True.intro, ?_⟩ | refine ⟨_, ⟨_, rfl, ?_, rfl, rfl, rfl⟩, ?_⟩ | refine ⟨_, rfl, ?_, rfl, ?_⟩ | refine ⟨_, (fun _ => rfl), rfl, ?_⟩ | refine ⟨(fun _ => rfl), ?_⟩ | refine ⟨rfl, ?_⟩ | refine Opt.a ?_ | fail)
    refine hK _ ?_
    unfold isAt
    rw [hp, List.getElem?_eq_none (Nat.le_refl _)]
  · have h := of_decide_eq_true (by assumption : decide ((i : Int) < (l.length : Int)) = true)
    show i < l.length
    omega
  · have hl0 : l.length ≤ MAXL := by assumption
    unfold MAXL at hl0
    have h := of_decide_eq_true (by assumption : decide ((i : Int) < (l.length : Int)) = true)
    unfold I64; omega
  · have hlt : i < l.length := by
      have h := of_decide_eq_true (by assumption : decide ((i : Int) < (l.length : Int)) = true)
      omega
    have hx : notLess n l[i] = false := by assumption
    refine ⟨i + 1, (by (refine wk_auto ?_; refine Sel4.mk rfl rfl ?_ ?_ <;> (repeat' (first | exact True.intro | exact rfl | exact Or.inl rfl | exact Or.inr rfl | refine And.intro ?_ ?_ | fail)))), ⟨hlt, fun j hj hj2 => ?_⟩, by omega⟩
    rcases Nat.lt_or_ge j i with h | h
    · exact hn j hj h
    · have : j = i := by omega
      subst this
      exact hx
  · have h := of_decide_eq_true (by assumption : decide ((i : Int) < (l.length : Int)) = true)
    show i < l.length
    omega
  · have hlt : i < l.length := by
      have h := of_decide_eq_true (by assumption : decide ((i : Int) < (l.length : Int)) = true)
      omega
    have hx : notLess n l[i] = true := by assumption
    have hp : placeI l n = i := place_at hlt hx hn
    repeat' (first | exact True.intro | refine ⟨_, LeL.refl _, ?_⟩ | refine ⟨_, _, _, LeL.refl _, ?_⟩ | (refine fun (b : Bool) hb => ?_; cases b <;> (first | exact absurd hb (by decide) | exact Bool.noConfusion (show true = false from hb) | exact Bool.noConfusion (show false = true from hb) | skip)) | (refine fun (hl : _ ≤ MAXL) => ?_) | refine And.intro (a := I64 _) ?_ ?_ | refine And.intro (a := _ ≤ 140737488355328) ?_ ?_ | refine ⟨_, ⟨rfl, rfl⟩, ?_⟩ | refine ⟨_, And.intro (a := I64 _) ?_ ⟨rfl, rfl⟩, ?_⟩ | refine ⟨_, _, ⟨rfl, rfl⟩, ?_⟩ | refine ⟨_, (fun _ => ⟨rfl, rfl⟩), ?_⟩ | refine And.intro (a := chkPend _ _ _ _ _ _) ?_ ?_ | refine And.intro (a := chkPast _ _ _ _ _ _ _ _) ?_ ?_ | refine ⟨⟨rfl, rfl⟩, ?_⟩ | refine And.intro (And.intro rfl rfl) ?_ | refine ⟨True.intro, ?_⟩ | refine ⟨_, ⟨_, rfl, ?_, rfl, rfl, rfl⟩, ?_⟩ | refine ⟨_, rfl, ?_, rfl, ?_⟩ | refine ⟨_, (fun _ => rfl), rfl, ?_⟩ | refine ⟨(fun _ => rfl), ?_⟩ | refine ⟨rfl, ?_⟩ | refine Opt.a ?_ | fail)
    refine hK _ ?_
    unfold isAt
    rw [hp, List.getElem?_eq_getElem hlt]
end Gv
namespace Gv
variable [Glob] [Laid]
theorem cloneB_ca : callable Tryz.prog 126 = true := by kernel_rfl
def cloneB_S : Spec := fun args K => ∃ a : List UInt8, args = [.sl byteV a] ∧ a.length ≤ 1000000 ∧ K (.sl byteV a)
noncomputable def cloneB_lib : List (Nat × Spec) := []
noncomputable def cloneB_fns : List (Nat × FnI) := []
noncomputable def cloneB_prims : List (Nat × PSpec) := []
theorem cloneB_E : EnvOK ⟨Tryz.prog, tys, cloneB_lib, cloneB_fns, cloneB_prims, []⟩ := env_ok mixed0 tys0 .nil .nil .nil rfl
set_option maxHeartbeats 4000000 in
theorem cloneB_ok : Pure Tryz.prog 126 cloneB_S := by
  refine pure_by cloneB_E 6 (fi := {fn := Tryz.f126, hooks := [], draws := []}) ⟨Tryz.func126, by kernel_rfl, by kernel_rfl⟩ ?_
  rintro _ K ⟨x, rfl, hx, hK⟩
  replace hK : ∀ p, p = .sl byteV x → K p := fun r h => h ▸ hK
  repeat' (first | exact True.intro | refine ⟨_, LeL.refl _, ?_⟩ | refine ⟨_, _, _, LeL.refl _, ?_⟩ | (refine fun (b : Bool) hb => ?_; cases b <;> (first | exact absurd hb (by decide) | exact Bool.noConfusion (show true = false from hb) | exact Bool.noConfusion (show false = true from hb) | skip)) | (refine fun (hl : _ ≤ MAXL) => ?_) | refine And.intro (a := I64 _) ?_ ?_ | refine And.intro (a := _ ≤ 140737488355328) ?_ ?_ | refine ⟨_, ⟨rfl, rfl⟩, ?_⟩ | refine ⟨_, And.intro (a := I64 _) ?_ ⟨rfl, rfl⟩, ?_⟩ | refine ⟨_, _, ⟨rfl, rfl⟩, ?_⟩ | refine ⟨_, (fun _ => ⟨rfl, rfl⟩), ?_⟩ | refine And.intro (a := chkPend _ _ _ _ _ _) ?_ ?_ | refine And.intro (a := chkPast _ _ _ _ _ _ _ _) ?_ ?_ | refine ⟨⟨rfl, rfl⟩, ?_⟩ | refine And.intro (And.intro rfl rfl) ?_ | refine ⟨True.intro, ?_⟩ | refine ⟨_, ⟨_, rfl, ?_, rfl, rfl, rfl⟩, ?_⟩ | refine ⟨_, rfl, ?_, rfl, ?_⟩ | refine ⟨_, (fun _ => rfl), rfl, ?_⟩ | refine ⟨(fun _ => rfl), ?_⟩ | refine ⟨rfl, ?_⟩ | refine Opt.a ?_ | refine ⟨UInt8, byteV, ?_⟩ | refine ⟨UInt8, byteV, _, LeL.refl _, ?_⟩ | refine ⟨(fun _ => rfl), ?_⟩ | fail)
  · simp
    omega
  · exact hK _ rfl
  · rename_i h
    have e := h rfl
    subst e
    exact hK _ rfl
end Gv
namespace Gv
variable [Glob] [Laid]
theorem bytesF_ca : callable Tryz.prog 129 = true := by kernel_rfl
def bytesF_S : Spec := fun args K => ∃ (l : List FileS) (n : Bs), args = [.sl fileV l, .str n] ∧ (∀ f ∈ l, f.b.length ≤ 1000000) ∧ K (.sl byteV (fileAt l n))
noncomputable def bytesF_lib : List (Nat × Spec) := [(125, placeF_S), (126, cloneB_S)]
noncomputable def bytesF_fns : List (Nat × FnI) := []
noncomputable def bytesF_prims : List (Nat × PSpec) := []
theorem bytesF_E : EnvOK ⟨Tryz.prog, tys, bytesF_lib, bytesF_fns, bytesF_prims, []⟩ := env_ok mixed0 tys0 (.cons placeF_ca placeF_ok (.cons cloneB_ca cloneB_ok .nil)) .nil .nil rfl
set_option maxHeartbeats 4000000 in
theorem bytesF_ok : Pure Tryz.prog 129 bytesF_S := by
  refine pure_by bytesF_E 6 (fi := {fn := Tryz.f129, hooks := [], draws := []}) ⟨Tryz.func129, by kernel_rfl, by kernel_rfl⟩ ?_
  rintro _ K ⟨l, n, rfl, hfb, hK⟩
  replace hK : ∀ r, r = .sl byteV (fileAt l n) → K r := fun r h => h ▸ hK
  refine ⟨l, n, rfl, ?_⟩
  obtain ⟨q, hq⟩ : ∃ q, isAt l n = q := ⟨_, rfl⟩
  rw [hq]
  cases q
  · repeat' (first | exact True.intro | refine ⟨_, LeL.refl _, ?_⟩ | refine ⟨_, _, _, LeL.refl _, ?_⟩ | (refine fun (b : Bool) hb => ?_; cases b <;> (first | exact absurd hb (by decide) | exact Bool.noConfusion (show true = false from hb) | exact Bool.noConfusion (show false = true from hb) | skip)) | (refine fun (hl : _ ≤ MAXL) => ?_) | refine And.intro (a := I64 _) ?_ ?_ | refine And.intro (a := _ ≤ 140737488355328) ?_ ?_ | refine ⟨_, ⟨rfl, rfl⟩, ?_⟩ | refine ⟨_, And.intro (a := I64 _) ?_ ⟨rfl, rfl⟩, ?_⟩ | refine ⟨_, _, ⟨rfl, rfl⟩, ?_⟩ | refine ⟨_, (fun _ => ⟨rfl, rfl⟩), ?_⟩ | refine And.intro (a := chkPend _ _ _ _ _ _) ?_ ?_ | refine And.intro (a := chkPast _ _ _ _ _ _ _ _) ?_ ?_ | refine ⟨⟨rfl, rfl⟩, ?_⟩ | refine And.intro (And.intro rfl rfl) ?_ | refine ⟨True.intro, ?_⟩ | refine ⟨_, ⟨_, rfl, ?_, rfl, rfl, rfl⟩, ?_⟩ | refine ⟨_, rfl, ?_, rfl, ?_⟩ | refine ⟨_, (fun _ => rfl), rfl, ?_⟩ | refine ⟨(fun _ => rfl), ?_⟩ | refine ⟨rfl, ?_⟩ | refine Opt.a ?_ | fail)
    refine ⟨UInt8, byteV, ?_⟩
    refine hK _ ?_
    unfold isAt at hq
    unfold fileAt
    cases h : l[placeI l n]? with
    | none => rfl
    | some f =>
      rw [h] at hq
      have : ¬ f.name = n := of_decide_eq_false hq
      simp [this]
  · have hx : ∃ h : placeI l n < l.length, l[placeI l n].name = n := by
      unfold isAt at hq
      cases h : l[placeI l n]? with
      | none => rw [h] at hq; cases hq
      | some f =>
        rw [h] at hq
        obtain ⟨h1, h2⟩ := List.getElem?_eq_some_iff.1 h
        exact ⟨h1, by rw [h2]; exact of_decide_eq_true hq⟩
    obtain ⟨hlt, hn⟩ := hx
    have hf : fileAt l n = l[placeI l n].b := by
      unfold fileAt
      rw [List.getElem?_eq_getElem hlt]
      simp [hn]
    rw [hf] at hK
    repeat' (first | exact True.intro | refine ⟨_, LeL.refl _, ?_⟩ | refine ⟨_, _, _, LeL.refl _, ?_⟩ | (refine fun (b : Bool) hb => ?_; cases b <;> (first | exact absurd hb (by decide) | exact Bool.noConfusion (show true = false from hb) | exact Bool.noConfusion (show false = true from hb) | skip)) | (refine fun (hl : _ ≤ MAXL) => ?_) | refine And.intro (a := I64 _) ?_ ?_ | refine And.intro (a := _ ≤ 140737488355328) ?_ ?_ | refine ⟨_, ⟨rfl, rfl⟩, ?_⟩ | refine ⟨_, And.intro (a := I64 _) ?_ ⟨rfl, rfl⟩, ?_⟩ | refine ⟨_, _, ⟨rfl, rfl⟩, ?_⟩ | refine ⟨_, (fun _ => ⟨rfl, rfl⟩), ?_⟩ | refine And.intro (a := chkPend _ _ _ _ _ _) ?_ ?_ | refine And.intro (a := chkPast _ _ _ _ _ _ _ _) ?_ ?_ | refine ⟨⟨rfl, rfl⟩, ?_⟩ | refine And.intro (And.intro rfl rfl) ?_ | refine ⟨True.intro, ?_⟩ | refine ⟨_, ⟨_, rfl, ?_, rfl, rfl, rfl⟩, ?_⟩ | refine ⟨_, rfl, ?_, rfl, ?_⟩ | refine ⟨_, (fun _ => rfl), rfl, ?_⟩ | refine ⟨(fun _ => rfl), ?_⟩ | refine ⟨rfl, ?_⟩ | refine Opt.a ?_ | fail)
    · exact hlt
    refine ⟨l[placeI l n].b, rfl, hfb _ (List.getElem_mem hlt), ?_⟩
    repeat' (first | exact True.intro | refine ⟨_, LeL.refl _, ?_⟩ | refine ⟨_, _, _, LeL.refl _, ?_⟩ | (refine fun (b : Bool) hb => ?_; cases b <;> (first | exact absurd hb (by decide) | exact Bool.noConfusion (show true = false from hb) | exact Bool.noConfusion (show false = true from hb) | skip)) | (refine fun (hl : _ ≤ MAXL) => ?_) | refine And.intro (a := I64 _) ?_ ?_ | refine And.intro (a := _ ≤ 140737488355328) ?_ ?_ | refine ⟨_, ⟨rfl, rfl⟩, ?_⟩ | refine ⟨_, And.intro (a := I64 _) ?_ ⟨rfl, rfl⟩, ?_⟩ | refine ⟨_, _, ⟨rfl, rfl⟩, ?_⟩ | refine ⟨_, (fun _ => ⟨rfl, rfl⟩), ?_⟩ | refine And.intro (a := chkPend _ _ _ _ _ _) ?_ ?_ | refine And.intro (a := chkPast _ _ _ _ _ _ _ _) ?_ ?_ | refine ⟨⟨rfl, rfl⟩, ?_⟩ | refine And.intro (And.intro rfl rfl) ?_ | refine ⟨True.intro, ?_⟩ | refine ⟨_, ⟨_, rfl, ?_, rfl, rfl, rfl⟩, ?_⟩ | refine ⟨_, rfl, ?_, rfl, ?_⟩ | refine ⟨_, (fun _ => rfl), rfl, ?_⟩ | refine ⟨(fun _ => rfl), ?_⟩ | refine ⟨rfl, ?_⟩ | refine Opt.a ?_ | fail)
    exact hK _ rfl
end Gv
namespace Gv
variable [Glob] [Laid]
theorem containsB_ca : callable Tryz.prog 180 = true := by kernel_rfl
def containsB_S : Spec := fun args K => ∃ (l : List UInt8) (c : UInt8), args = [.sl byteV l, byteV c] ∧ K (.bool (l.contains c))
noncomputable def containsB_lib : List (Nat × Spec) := []
noncomputable def containsB_fns : List (Nat × FnI) := [(249, {fn := Tryz.f249, hooks := [], draws := []})]
noncomputable def containsB_prims : List (Nat × PSpec) := []
theorem containsB_E : EnvOK ⟨Tryz.prog, tys, containsB_lib, containsB_fns, containsB_prims, []⟩ := env_ok mixed0 tys0 .nil (.cons (by kernel_rfl) ⟨Tryz.func249, by kernel_rfl, by kernel_rfl⟩ .nil) .nil rfl
set_option maxHeartbeats 4000000 in
theorem containsB_ok : Pure Tryz.prog 180 containsB_S := by
  refine pure_by containsB_E 6 (fi := {fn := Tryz.f180, hooks := [], draws := []}) ⟨Tryz.func180, by kernel_rfl, by kernel_rfl⟩ ?_
  rintro _ K ⟨l, c, rfl, hK⟩
  replace hK : ∀ r, r = .bool (l.contains c) → K r := fun r h => h ▸ hK
  refine fun (hl : _ ≤ MAXL) => ?_
  conv => whnf
  refine loop_live [0, 1, 7] (σ := Nat) (fun i => [(8, .int .i64 i)]) (fun i => []) (fun i => i ≤ l.length ∧ c ∉ l.take i) (fun i => l.length - i) 0 ?_
  conv => whnf
  refine ⟨(by (refine wk_sel [] rfl rfl ?_ ?_ <;> (repeat' (first | exact True.intro | exact rfl | exact Or.inl rfl | exact Or.inr rfl | refine And.intro ?_ ?_ | fail)))), ⟨Nat.zero_le _, by simp⟩, fun i hi => ?_⟩
  obtain ⟨hi, hc⟩ := hi
  repeat' (first | exact True.intro | refine ⟨_, LeL.refl _, ?_⟩ | refine ⟨_, _, _, LeL.refl _, ?_⟩ | (refine fun (b : Bool) hb => ?_; cases b <;> (first | exact absurd hb (by decide) | exact Bool.noConfusion (show true = false from hb) | exact Bool.noConfusion (show false = true from hb) | skip)) | (refine fun (hl : _ ≤ MAXL) => ?_) | refine And.intro (a := I64 _) ?_ ?_ | refine And.intro (a := _ ≤ 140737488355328) ?_ ?_ | refine ⟨_, ⟨rfl, rfl⟩, ?_⟩ | refine ⟨_, And.intro (a := I64 _) ?_ ⟨rfl, rfl⟩, ?_⟩ | refine ⟨_, _, ⟨rfl, rfl⟩, ?_⟩ | refine ⟨_, (fun _ => ⟨rfl, rfl⟩), ?_⟩ | refine And.intro (a := chkPend _ _ _ _ _ _) ?_ ?_ | refine And.intro (a := chkPast _ _ _ _ _ _ _ _) ?_ ?_ | refine ⟨⟨rfl, rfl⟩, ?_⟩ | refine And.intro (And.intro rfl rfl) ?_ | refine ⟨True.intro, ?_⟩ | refine ⟨_, ⟨_, rfl, ?_, rfl, rfl, rfl⟩, ?_⟩ | refine ⟨_, rfl, ?_, rfl, ?_⟩ | refine ⟨_, (fun _ => rfl), rfl, ?_⟩ | refine ⟨(fun _ => rfl), ?_⟩ | refine ⟨rfl, ?_⟩ | refine Opt.a ?_ | fail)
  · refine hK _ ?_
    have e : l.take i = l := List.take_of_length_le (by grind)
    rw [e] at hc
    simp [hc]
  · grind
  · (first | omega | (unfold I64; omega) | (simp only [List.length_append, List.length_map, List.length_cons, List.length_nil, Nat.mul_one, Int.ofNat_eq_natCast] at *; omega) | (dsimp only at *; omega) | (unfold I64; dsimp only at *; omega) | (unfold I64; grind) | grind)
  · have hi2 : i < l.length := by grind
    refine ⟨i + 1, (by (refine wk_sel [] rfl rfl ?_ ?_ <;> (repeat' (first | exact True.intro | exact rfl | exact Or.inl rfl | exact Or.inr rfl | refine And.intro ?_ ?_ | fail)))), ⟨by grind, ?_⟩, by grind⟩
    rw [List.take_succ_eq_append_getElem hi2]
    simp only [List.mem_append, List.mem_singleton, not_or]
    refine ⟨hc, fun e => ?_⟩
    subst e
    simp at *
  · have hi2 : i < l.length := by grind
    refine hK _ ?_
    have e : c = l[i] := by
      apply UInt8.toNat_inj.1
      grind
    have h1 : l.contains c = true := by
      rw [e]
      simp
    have h2 : decide ((0 : Int) ≤ (i : Int)) = true := by simp
    rw [h1, h2]
end Gv
namespace Gv
variable [Glob] [Laid]
theorem index1_ca : callable Tryz.prog 266 = true := by kernel_rfl
def index1_S : Spec := fun args K => ∃ (l : List UInt8), args = [.sl byteV l, .sl byteV [10]] ∧ K (.int .i64 (idxB l 10))
set_option maxHeartbeats 4000000 in
theorem index1_ok : Pure Tryz.prog 266 index1_S := by
  refine pure_look fun w m args us K hm hg hl hv hT => ?_
  obtain ⟨l, rfl, hK⟩ := hT
  obtain ⟨a, b, rfl, ha, hb⟩ := args2 hl hv
  obtain ⟨p, c, rfl, hp, hlc, hc, hx⟩ := bytes_open ha hm
  obtain ⟨p2, c2, rfl, hp2, hlc2, hc2, hx2⟩ := bytes_open hb hm
  refine ⟨_, _, hK, .int, ?_⟩
  match p2, hp2, hx2 with
  | none, hp2, _ => exact absurd (hp2 rfl).1 (by simp)
  | some ⟨b2, o2, sp2⟩, _, hx2 =>
    obtain ⟨h1, h2⟩ := hx2 b2 o2 sp2 rfl
    have hs : sp2 = none := h1.resolve_right (by simp)
    subst hs
    have h3 := h2 0 (by simp)
    have h4 : w.cell? ⟨b2, o2, none⟩ = some (.int .u8 10) := by simpa [Addr.add, numsOf] using h3
    match p, hp, hx with
    | none, hp, _ =>
      obtain ⟨rfl, rfl⟩ := hp rfl
      exact (Tryz.bytes_Index_one_nil b2 o2 c2 10 w h4).mono fun e w' ⟨he, hw⟩ => ⟨by rw [he]; rfl, by subst hw; exact Bel.refl _ _⟩
    | some ⟨b1, o1, sp1⟩, _, hx =>
      refine (Tryz.bytes_Index_one_at ⟨b1, o1, sp1⟩ l.length c b2 o2 c2 (numsOf l) 10 w (numsOf_length l) (fun i hi => (hx b1 o1 sp1 rfl).2 i hi) h4).mono fun e w' ⟨he, hw⟩ => ⟨by rw [he, bytesOf_nums]; rfl, by subst hw; exact Bel.refl _ _⟩
end Gv
namespace Gv
variable [Glob] [Laid]
theorem cut_idx (l : Bs) : (cutNl l).2.2 = decide (0 ≤ idxB l 10) ∧ (0 ≤ idxB l 10 → idxB l 10 + 1 ≤ l.length ∧ (cutNl l).1 = l.take (idxB l 10).toNat ∧ (cutNl l).2.1 = l.drop ((idxB l 10).toNat + 1)) ∧ (idxB l 10 < 0 → cutNl l = (l, [], false)) := by
  unfold idxB
  rcases nl_cases l with h | ⟨a, r, rfl, ha⟩
  · have e : Lib.indexByte l 10 = -1 := by
      induction l with
      | nil => rfl
      | cons c l ih =>
        simp only [List.mem_cons, not_or] at h
        unfold Lib.indexByte
        rw [if_neg (by simpa using fun e => h.1 (e.symm)), ih h.2]
        rfl
    rw [e, cutNl_no h]
    refine ⟨rfl, fun h => by omega, fun _ => rfl⟩
  · have e : Lib.indexByte (a ++ 10 :: r) 10 = a.length := by
      induction a with
      | nil => rfl
      | cons c a ih =>
        simp only [List.mem_cons, not_or] at ha
        show Lib.indexByte (c :: (a ++ 10 :: r)) 10 = _
        unfold Lib.indexByte
        rw [if_neg (by simpa using fun e => ha.1 (e.symm)), ih ha.2, if_neg (by simp <;> omega)]
        simp
    rw [e, cutNl_nl ha]
    refine ⟨by simp, fun _ => ⟨by simp <;> omega, by simp, ?_⟩, fun h => by omega⟩
    rw [Int.toNat_natCast, show a.length + 1 = (a ++ [10]).length by simp, show a ++ 10 :: r = (a ++ [10]) ++ r by simp, List.drop_left]
theorem cut_ca : callable Tryz.prog 227 = true := by kernel_rfl
def cut_S : Spec := fun args K => ∃ (l : List UInt8), args = [.sl byteV l, .sl byteV [10]] ∧ l.length ≤ 1000000 ∧ K (.tup [.sl byteV (cutNl l).1, .sl byteV (cutNl l).2.1, .bool (cutNl l).2.2])
noncomputable def cut_lib : List (Nat × Spec) := [(266, index1_S)]
noncomputable def cut_fns : List (Nat × FnI) := []
noncomputable def cut_prims : List (Nat × PSpec) := []
theorem cut_E : EnvOK ⟨Tryz.prog, tys, cut_lib, cut_fns, cut_prims, []⟩ := env_ok mixed0 tys0 (.cons index1_ca index1_ok .nil) .nil .nil rfl
set_option maxHeartbeats 4000000 in
theorem cut_ok : Pure Tryz.prog 227 cut_S := by
  refine pure_by cut_E 6 (fi := {fn := Tryz.f227, hooks := [], draws := [(3, [0, 0, 3, 0, 0, 0, 32, 112, 248, 7, 1023, 2047])]}) ⟨Tryz.func227, by kernel_rfl, by kernel_rfl⟩ ?_
  rintro _ K ⟨l, rfl, hz, hK⟩
  replace hK : ∀ r, r = .tup [.sl byteV (cutNl l).1, .sl byteV (cutNl l).2.1, .bool (cutNl l).2.2] → K r := fun r h => h ▸ hK
  obtain ⟨h1, h2, h3⟩ := cut_idx l
  refine ⟨l, rfl, ?_⟩
  repeat' (first | exact True.intro | refine ⟨_, LeL.refl _, ?_⟩ | refine ⟨_, _, _, LeL.refl _, ?_⟩ | (refine fun (b : Bool) hb => ?_; cases b <;> (first | exact absurd hb (by decide) | exact Bool.noConfusion (show true = false from hb) | exact Bool.noConfusion (show false = true from hb) | skip)) | (refine fun (hl : _ ≤ MAXL) => ?_) | refine And.intro (a := I64 _) ?_ ?_ | refine And.intro (a := _ ≤ 140737488355328) ?_ ?_ | refine ⟨_, ⟨rfl, rfl⟩, ?_⟩ | refine ⟨_, And.intro (a := I64 _) ?_ ⟨rfl, rfl⟩, ?_⟩ | refine ⟨_, _, ⟨rfl, rfl⟩, ?_⟩ | refine ⟨_, (fun _ => ⟨rfl, rfl⟩), ?_⟩ | refine And.intro (a := chkPend _ _ _ _ _ _) ?_ ?_ | refine And.intro (a := chkPast _ _ _ _ _ _ _ _) ?_ ?_ | refine ⟨⟨rfl, rfl⟩, ?_⟩ | refine And.intro (And.intro rfl rfl) ?_ | refine ⟨True.intro, ?_⟩ | refine ⟨_, ⟨_, rfl, ?_, rfl, rfl, rfl⟩, ?_⟩ | refine ⟨_, rfl, ?_, rfl, ?_⟩ | refine ⟨_, (fun _ => rfl), rfl, ?_⟩ | refine ⟨(fun _ => rfl), ?_⟩ | refine ⟨rfl, ?_⟩ | refine Opt.a ?_ | refine ⟨UInt8, byteV, ?_⟩ | fail)
  · refine hK _ ?_
    rw [h3 (by grind)]
  have hi : 0 ≤ idxB l 10 := by grind
  obtain ⟨g1, g2, g3⟩ := h2 hi
  refine ⟨_, ⟨fun _ => rfl, (idxB l 10).toNat, by omega, by omega, rfl, rfl⟩, ?_⟩
  repeat' (first | exact True.intro | refine ⟨_, LeL.refl _, ?_⟩ | refine ⟨_, _, _, LeL.refl _, ?_⟩ | (refine fun (b : Bool) hb => ?_; cases b <;> (first | exact absurd hb (by decide) | exact Bool.noConfusion (show true = false from hb) | exact Bool.noConfusion (show false = true from hb) | skip)) | (refine fun (hl : _ ≤ MAXL) => ?_) | refine And.intro (a := I64 _) ?_ ?_ | refine And.intro (a := _ ≤ 140737488355328) ?_ ?_ | refine ⟨_, ⟨rfl, rfl⟩, ?_⟩ | refine ⟨_, And.intro (a := I64 _) ?_ ⟨rfl, rfl⟩, ?_⟩ | refine ⟨_, _, ⟨rfl, rfl⟩, ?_⟩ | refine ⟨_, (fun _ => ⟨rfl, rfl⟩), ?_⟩ | refine And.intro (a := chkPend _ _ _ _ _ _) ?_ ?_ | refine And.intro (a := chkPast _ _ _ _ _ _ _ _) ?_ ?_ | refine ⟨⟨rfl, rfl⟩, ?_⟩ | refine And.intro (And.intro rfl rfl) ?_ | refine ⟨True.intro, ?_⟩ | refine ⟨_, ⟨_, rfl, ?_, rfl, rfl, rfl⟩, ?_⟩ | refine ⟨_, rfl, ?_, rfl, ?_⟩ | refine ⟨_, (fun _ => rfl), rfl, ?_⟩ | refine ⟨(fun _ => rfl), ?_⟩ | refine ⟨rfl, ?_⟩ | refine Opt.a ?_ | fail)
  · simp only [List.length_cons, List.length_nil]
    unfold I64
    omega
  refine ⟨_, ⟨fun _ => rfl, (idxB l 10).toNat + 1, ?_, by omega, rfl, rfl⟩, ?_⟩
  · simp only [List.length_cons, List.length_nil]
    omega
  repeat' (first | exact True.intro | refine ⟨_, LeL.refl _, ?_⟩ | refine ⟨_, _, _, LeL.refl _, ?_⟩ | (refine fun (b : Bool) hb => ?_; cases b <;> (first | exact absurd hb (by decide) | exact Bool.noConfusion (show true = false from hb) | exact Bool.noConfusion (show false = true from hb) | skip)) | (refine fun (hl : _ ≤ MAXL) => ?_) | refine And.intro (a := I64 _) ?_ ?_ | refine And.intro (a := _ ≤ 140737488355328) ?_ ?_ | refine ⟨_, ⟨rfl, rfl⟩, ?_⟩ | refine ⟨_, And.intro (a := I64 _) ?_ ⟨rfl, rfl⟩, ?_⟩ | refine ⟨_, _, ⟨rfl, rfl⟩, ?_⟩ | refine ⟨_, (fun _ => ⟨rfl, rfl⟩), ?_⟩ | refine And.intro (a := chkPend _ _ _ _ _ _) ?_ ?_ | refine And.intro (a := chkPast _ _ _ _ _ _ _ _) ?_ ?_ | refine ⟨⟨rfl, rfl⟩, ?_⟩ | refine And.intro (And.intro rfl rfl) ?_ | refine ⟨True.intro, ?_⟩ | refine ⟨_, ⟨_, rfl, ?_, rfl, rfl, rfl⟩, ?_⟩ | refine ⟨_, rfl, ?_, rfl, ?_⟩ | refine ⟨_, (fun _ => rfl), rfl, ?_⟩ | refine ⟨(fun _ => rfl), ?_⟩ | refine ⟨rfl, ?_⟩ | refine Opt.a ?_ | fail)
  refine hK _ ?_
  rw [g2, g3, h1, decide_eq_true hi]
end Gv
namespace Gv
variable [Glob] [Laid]
theorem of_ca : callable Tryz.prog 158 = true := by kernel_rfl
def of_S : Spec := fun args K => ∃ (b : Bs), args = [.sl byteV b] ∧ b.length ≤ 1000000 ∧ K (.sl strV (linesOf b))
noncomputable def of_lib : List (Nat × Spec) := [(227, cut_S)]
noncomputable def of_fns : List (Nat × FnI) := []
noncomputable def of_prims : List (Nat × PSpec) := []
theorem of_E : EnvOK ⟨Tryz.prog, tys, of_lib, of_fns, of_prims, []⟩ := env_ok mixed0 tys0 (.cons cut_ca cut_ok .nil) .nil .nil rfl
set_option maxHeartbeats 4000000 in
theorem of_ok : Pure Tryz.prog 158 of_S := by
  refine pure_by of_E 6 (fi := {fn := Tryz.f158, hooks := [], draws := []}) ⟨Tryz.func158, by kernel_rfl, by kernel_rfl⟩ ?_
  rintro _ K ⟨b0, rfl, hz, hK⟩
  conv => whnf
  refine loop_live [] (σ := List Bs × Bs) (fun s => [(3, .own 0), (0, .sl byteV s.2)]) (fun s => [.row 1 (s.1.map strV)]) (fun s => s.1 ++ linesOf s.2 = linesOf b0 ∧ s.2.length + s.1.length ≤ 1000000) (fun s => s.2.length) ([], b0) ?_
  conv => whnf
  refine ⟨(by (refine wk_sel [none] rfl rfl ?_ ?_ <;> (repeat' (first | exact True.intro | exact rfl | exact Or.inl rfl | exact Or.inr rfl | refine And.intro ?_ ?_ | fail)))), ⟨rfl, hz⟩, fun s hs => ?_⟩
  obtain ⟨l, b⟩ := s
  obtain ⟨h1, h2⟩ := hs
  replace h1 : l ++ linesOf b = linesOf b0 := h1
  replace h2 : b.length + l.length ≤ 1000000 := h2
  repeat' (first | exact True.intro | refine ⟨_, LeL.refl _, ?_⟩ | refine ⟨_, _, _, LeL.refl _, ?_⟩ | (refine fun (b : Bool) hb => ?_; cases b <;> (first | exact absurd hb (by decide) | exact Bool.noConfusion (show true = false from hb) | exact Bool.noConfusion (show false = true from hb) | skip)) | (refine fun (hl : _ ≤ MAXL) => ?_) | refine And.intro (a := I64 _) ?_ ?_ | refine And.intro (a := _ ≤ 140737488355328) ?_ ?_ | refine ⟨_, ⟨rfl, rfl⟩, ?_⟩ | refine ⟨_, And.intro (a := I64 _) ?_ ⟨rfl, rfl⟩, ?_⟩ | refine ⟨_, _, ⟨rfl, rfl⟩, ?_⟩ | refine ⟨_, (fun _ => ⟨rfl, rfl⟩), ?_⟩ | refine And.intro (a := chkPend _ _ _ _ _ _) ?_ ?_ | refine And.intro (a := chkPast _ _ _ _ _ _ _ _) ?_ ?_ | refine ⟨⟨rfl, rfl⟩, ?_⟩ | refine And.intro (And.intro rfl rfl) ?_ | refine ⟨True.intro, ?_⟩ | refine ⟨_, ⟨_, rfl, ?_, rfl, rfl, rfl⟩, ?_⟩ | refine ⟨_, rfl, ?_, rfl, ?_⟩ | refine ⟨_, (fun _ => rfl), rfl, ?_⟩ | refine ⟨(fun _ => rfl), ?_⟩ | refine ⟨rfl, ?_⟩ | refine Opt.a ?_ | fail)
  · have : b = [] := by
      have h : decide (0 < (b.length : Int)) = false := by assumption
      cases b with
      | nil => rfl
      | cons c b => simp at h <;> omega
    subst this
    rw [linesOf_nil, List.append_nil] at h1
    rw [h1]
    exact hK
  have hb0 : b ≠ [] := by
    intro e
    subst e
    have h : decide ((0 : Int) < (([] : Bs).length : Int)) = true := by assumption
    simp at h
  have g1 := linesOf_cut hb0
  have g2 := cut_len hb0
  refine ⟨UInt8, byteV, [10], LeL.refl _, ?_⟩
  refine ⟨b, rfl, by omega, ?_⟩
  repeat' (first | exact True.intro | refine ⟨_, LeL.refl _, ?_⟩ | refine ⟨_, _, _, LeL.refl _, ?_⟩ | (refine fun (b : Bool) hb => ?_; cases b <;> (first | exact absurd hb (by decide) | exact Bool.noConfusion (show true = false from hb) | exact Bool.noConfusion (show false = true from hb) | skip)) | (refine fun (hl : _ ≤ MAXL) => ?_) | refine And.intro (a := I64 _) ?_ ?_ | refine And.intro (a := _ ≤ 140737488355328) ?_ ?_ | refine ⟨_, ⟨rfl, rfl⟩, ?_⟩ | refine ⟨_, And.intro (a := I64 _) ?_ ⟨rfl, rfl⟩, ?_⟩ | refine ⟨_, _, ⟨rfl, rfl⟩, ?_⟩ | refine ⟨_, (fun _ => ⟨rfl, rfl⟩), ?_⟩ | refine And.intro (a := chkPend _ _ _ _ _ _) ?_ ?_ | refine And.intro (a := chkPast _ _ _ _ _ _ _ _) ?_ ?_ | refine ⟨⟨rfl, rfl⟩, ?_⟩ | refine And.intro (And.intro rfl rfl) ?_ | refine ⟨True.intro, ?_⟩ | refine ⟨_, ⟨_, rfl, ?_, rfl, rfl, rfl⟩, ?_⟩ | refine ⟨_, rfl, ?_, rfl, ?_⟩ | refine ⟨_, (fun _ => rfl), rfl, ?_⟩ | refine ⟨(fun _ => rfl), ?_⟩ | refine ⟨rfl, ?_⟩ | refine Opt.a ?_ | fail)
  · simp only [List.length_map, List.length_cons, List.length_nil]
    have := List.length_pos_iff.2 hb0
    omega
  · refine ⟨(l ++ [(cutNl b).1], (cutNl b).2.1), ?_, ⟨?_, ?_⟩, g2.1⟩
    · refine wk_sel [some 3] rfl rfl ⟨?_, trivial⟩ ?_
      · rw [List.map_append]
        exact rfl
      · (repeat' (first | exact True.intro | exact rfl | exact Or.inl rfl | exact Or.inr rfl | refine And.intro ?_ ?_ | fail))
    · rw [← h1, g1, List.append_assoc]
      rfl
    · simp only [List.length_append, List.length_cons, List.length_nil]
      omega
end Gv
namespace Gv
variable [Glob] [Laid]
theorem linesL_ca : callable Tryz.prog 123 = true := by kernel_rfl
def linesL_S : Spec := fun args K => ∃ (b : Bs), args = [.sl byteV b] ∧ b.length ≤ 1000000 ∧ K (.sl strV (linesOf b))
noncomputable def linesL_lib : List (Nat × Spec) := [(158, of_S)]
noncomputable def linesL_fns : List (Nat × FnI) := []
noncomputable def linesL_prims : List (Nat × PSpec) := []
theorem linesL_E : EnvOK ⟨Tryz.prog, tys, linesL_lib, linesL_fns, linesL_prims, []⟩ := env_ok mixed0 tys0 (.cons of_ca of_ok .nil) .nil .nil rfl
set_option maxHeartbeats 4000000 in
theorem linesL_ok : Pure Tryz.prog 123 linesL_S := by
  refine pure_by linesL_E 6 (fi := {fn := Tryz.f123, hooks := [], draws := []}) ⟨Tryz.func123, by kernel_rfl, by kernel_rfl⟩ ?_
  rintro _ K ⟨b, rfl, hz, hK⟩
  replace hK : ∀ r, r = .sl strV (linesOf b) → K r := fun r h => h ▸ hK
  repeat' (first | exact True.intro | refine ⟨_, LeL.refl _, ?_⟩ | refine ⟨_, _, _, LeL.refl _, ?_⟩ | (refine fun (b : Bool) hb => ?_; cases b <;> (first | exact absurd hb (by decide) | exact Bool.noConfusion (show true = false from hb) | exact Bool.noConfusion (show false = true from hb) | skip)) | (refine fun (hl : _ ≤ MAXL) => ?_) | refine And.intro (a := I64 _) ?_ ?_ | refine And.intro (a := _ ≤ 140737488355328) ?_ ?_ | refine ⟨_, ⟨rfl, rfl⟩, ?_⟩ | refine ⟨_, And.intro (a := I64 _) ?_ ⟨rfl, rfl⟩, ?_⟩ | refine ⟨_, _, ⟨rfl, rfl⟩, ?_⟩ | refine ⟨_, (fun _ => ⟨rfl, rfl⟩), ?_⟩ | refine And.intro (a := chkPend _ _ _ _ _ _) ?_ ?_ | refine And.intro (a := chkPast _ _ _ _ _ _ _ _) ?_ ?_ | refine ⟨⟨rfl, rfl⟩, ?_⟩ | refine And.intro (And.intro rfl rfl) ?_ | refine ⟨True.intro, ?_⟩ | refine ⟨_, ⟨_, rfl, ?_, rfl, rfl, rfl⟩, ?_⟩ | refine ⟨_, rfl, ?_, rfl, ?_⟩ | refine ⟨_, (fun _ => rfl), rfl, ?_⟩ | refine ⟨(fun _ => rfl), ?_⟩ | refine ⟨rfl, ?_⟩ | refine Opt.a ?_ | fail)
  refine ⟨b, rfl, hz, ?_⟩
  repeat' (first | exact True.intro | refine ⟨_, LeL.refl _, ?_⟩ | refine ⟨_, _, _, LeL.refl _, ?_⟩ | (refine fun (b : Bool) hb => ?_; cases b <;> (first | exact absurd hb (by decide) | exact Bool.noConfusion (show true = false from hb) | exact Bool.noConfusion (show false = true from hb) | skip)) | (refine fun (hl : _ ≤ MAXL) => ?_) | refine And.intro (a := I64 _) ?_ ?_ | refine And.intro (a := _ ≤ 140737488355328) ?_ ?_ | refine ⟨_, ⟨rfl, rfl⟩, ?_⟩ | refine ⟨_, And.intro (a := I64 _) ?_ ⟨rfl, rfl⟩, ?_⟩ | refine ⟨_, _, ⟨rfl, rfl⟩, ?_⟩ | refine ⟨_, (fun _ => ⟨rfl, rfl⟩), ?_⟩ | refine And.intro (a := chkPend _ _ _ _ _ _) ?_ ?_ | refine And.intro (a := chkPast _ _ _ _ _ _ _ _) ?_ ?_ | refine ⟨⟨rfl, rfl⟩, ?_⟩ | refine And.intro (And.intro rfl rfl) ?_ | refine ⟨True.intro, ?_⟩ | refine ⟨_, ⟨_, rfl, ?_, rfl, rfl, rfl⟩, ?_⟩ | refine ⟨_, rfl, ?_, rfl, ?_⟩ | refine ⟨_, (fun _ => rfl), rfl, ?_⟩ | refine ⟨(fun _ => rfl), ?_⟩ | refine ⟨rfl, ?_⟩ | refine Opt.a ?_ | fail)
  exact hK _ rfl
end Gv
namespace Gv
variable [Glob] [Laid]
theorem put_ca : callable Tryz.prog 97 = true := by kernel_rfl
def put_S : Spec := fun args K => ∃ l : List Bs, args = [.sl strV l] ∧ (put l).length ≤ 1000000 ∧ K (.sl byteV (put l))
noncomputable def put_lib : List (Nat × Spec) := []
noncomputable def put_fns : List (Nat × FnI) := []
noncomputable def put_prims : List (Nat × PSpec) := []
theorem put_E : EnvOK ⟨Tryz.prog, tys, put_lib, put_fns, put_prims, []⟩ := env_ok mixed0 tys0 .nil .nil .nil rfl
set_option maxHeartbeats 4000000 in
theorem put_ok : Pure Tryz.prog 97 put_S := by
  refine pure_by put_E 6 (fi := {fn := Tryz.f97, hooks := [], draws := []}) ⟨Tryz.func97, by kernel_rfl, by kernel_rfl⟩ ?_
  rintro _ K ⟨l, rfl, hb, hK⟩
  refine fun (hl : _ ≤ MAXL) => ?_
  conv => whnf
  refine loop_live [6, 7] (σ := Nat) (fun i => [(3, .own 0), (8, .int .i64 i)]) (fun i => [.row 1 ((put (l.take i)).map byteV)]) (fun i => i ≤ l.length) (fun i => l.length - i) 0 ?_
  conv => whnf
  refine ⟨(by (refine wk_sel [none] rfl rfl ?_ ?_ <;> (repeat' (first | exact True.intro | exact rfl | exact Or.inl rfl | exact Or.inr rfl | refine And.intro ?_ ?_ | fail)))), Nat.zero_le _, fun i hi => ?_⟩
  have h1 := put_take_le l i
  have h2 := put_take_le l (i + 1)
  repeat' (first | exact True.intro | refine ⟨_, LeL.refl _, ?_⟩ | refine ⟨_, _, _, LeL.refl _, ?_⟩ | (refine fun (b : Bool) hb => ?_; cases b <;> (first | exact absurd hb (by decide) | exact Bool.noConfusion (show true = false from hb) | exact Bool.noConfusion (show false = true from hb) | skip)) | (refine fun (hl : _ ≤ MAXL) => ?_) | refine And.intro (a := I64 _) ?_ ?_ | refine And.intro (a := _ ≤ 140737488355328) ?_ ?_ | refine ⟨_, ⟨rfl, rfl⟩, ?_⟩ | refine ⟨_, And.intro (a := I64 _) ?_ ⟨rfl, rfl⟩, ?_⟩ | refine ⟨_, _, ⟨rfl, rfl⟩, ?_⟩ | refine ⟨_, (fun _ => ⟨rfl, rfl⟩), ?_⟩ | refine And.intro (a := chkPend _ _ _ _ _ _) ?_ ?_ | refine And.intro (a := chkPast _ _ _ _ _ _ _ _) ?_ ?_ | refine ⟨⟨rfl, rfl⟩, ?_⟩ | refine And.intro (And.intro rfl rfl) ?_ | refine ⟨True.intro, ?_⟩ | refine ⟨_, ⟨_, rfl, ?_, rfl, rfl, rfl⟩, ?_⟩ | refine ⟨_, rfl, ?_, rfl, ?_⟩ | refine ⟨_, (fun _ => rfl), rfl, ?_⟩ | refine ⟨(fun _ => rfl), ?_⟩ | refine ⟨rfl, ?_⟩ | refine Opt.a ?_ | fail)
  · rw [List.take_of_length_le (by grind)]
    exact hK
  · grind
  · rw [put_take_succ (by grind)] at h2
    simp only [List.length_append, List.length_map, List.length_cons, List.length_nil, Nat.mul_one] at *
    omega
  · rw [put_take_succ (by grind)] at h2
    simp only [List.length_append, List.length_map, List.length_cons, List.length_nil, Nat.mul_one] at *
    omega
  · (first | omega | (unfold I64; omega) | (simp only [List.length_append, List.length_map, List.length_cons, List.length_nil, Nat.mul_one, Int.ofNat_eq_natCast] at *; omega) | (dsimp only at *; omega) | (unfold I64; dsimp only at *; omega) | (unfold I64; grind) | grind)
  · refine ⟨i + 1, ?_, by grind, by grind⟩
    refine wk_sel [some 3] rfl rfl ⟨?_, trivial⟩ ?_
    · rw [put_take_succ (by grind), List.map_append, List.map_append, ← List.append_assoc]
      exact rfl
    · (repeat' (first | exact True.intro | exact rfl | exact Or.inl rfl | exact Or.inr rfl | refine And.intro ?_ ?_ | fail))
end Gv
namespace Gv
variable [Glob] [Laid]
theorem concatB_ca : callable Tryz.prog 296 = true := by kernel_rfl
def concatB_S : Spec := fun args K => ∃ a : List (List UInt8), args = [.sl blV a] ∧ a.flatten.length ≤ 1000000 ∧ K (.sl byteV a.flatten)
noncomputable def concatB_lib : List (Nat × Spec) := []
noncomputable def concatB_fns : List (Nat × FnI) := [(315, {fn := Tryz.f315, hooks := [], draws := []})]
noncomputable def concatB_prims : List (Nat × PSpec) := []
theorem concatB_E : EnvOK ⟨Tryz.prog, tys, concatB_lib, concatB_fns, concatB_prims, []⟩ := env_ok mixed0 tys0 .nil (.cons (by kernel_rfl) ⟨Tryz.func315, by kernel_rfl, by kernel_rfl⟩ .nil) .nil rfl
set_option maxHeartbeats 4000000 in
theorem concatB_ok : Pure Tryz.prog 296 concatB_S := by
  refine pure_by concatB_E 6 (fi := {fn := Tryz.f296, hooks := [10], draws := []}) ⟨Tryz.func296, by kernel_rfl, by kernel_rfl⟩ ?_
  rintro _ K ⟨x, rfl, hx, hK⟩
  replace hK : ∀ p, p = .sl byteV x.flatten → K p := fun r h => h ▸ hK
  obtain ⟨f, hf⟩ : ∃ f : Nat → List UInt8, ∀ i, f i = (x.take i).flatten := ⟨_, fun _ => rfl⟩
  have f0 : f 0 = [] := by simp [hf]
  have fS : ∀ i (h : i < x.length), f (i + 1) = f i ++ x[i] := fun i h => by
    rw [hf, hf, List.take_succ_eq_append_getElem h]
    simp only [List.flatten_append, List.flatten_cons, List.flatten_nil, List.append_nil]
  have fN : ∀ i, x.length ≤ i → f i = x.flatten := fun i h => by simp [hf, List.take_of_length_le h]
  have fl : ∀ i, (f i).length ≤ 1000000 := fun i => by
    rw [← List.take_append_drop i x] at hx
    simp only [List.flatten_append, List.length_append] at hx
    rw [hf]; omega
  clear hf
  refine fun (hl : _ ≤ MAXL) => ?_
  conv => whnf
  refine loop_intro (σ := Nat) (fun i => [(0, .sl blV x), (2, .nil), (9, .sl blV x), (10, .int .i64 x.length), (11, .int .i64 i), (3, .int .i64 ((f i).length : Nat))]) (fun _ => []) (fun i => i ≤ x.length) (fun i => x.length - i) 0 (wk_sel [] rfl rfl trivial ?_) (Nat.zero_le _) ?_
  · simp only [f0]
    (repeat' (first | exact True.intro | exact rfl | exact Or.inl rfl | exact Or.inr rfl | refine And.intro ?_ ?_ | fail))
  intro i hi
  have hs := fl i
  repeat' (first | exact True.intro | refine ⟨_, LeL.refl _, ?_⟩ | refine ⟨_, _, _, LeL.refl _, ?_⟩ | (refine fun (b : Bool) hb => ?_; cases b <;> (first | exact absurd hb (by decide) | exact Bool.noConfusion (show true = false from hb) | exact Bool.noConfusion (show false = true from hb) | skip)) | (refine fun (hl : _ ≤ MAXL) => ?_) | refine And.intro (a := I64 _) ?_ ?_ | refine And.intro (a := _ ≤ 140737488355328) ?_ ?_ | refine ⟨_, ⟨rfl, rfl⟩, ?_⟩ | refine ⟨_, And.intro (a := I64 _) ?_ ⟨rfl, rfl⟩, ?_⟩ | refine ⟨_, _, ⟨rfl, rfl⟩, ?_⟩ | refine ⟨_, (fun _ => ⟨rfl, rfl⟩), ?_⟩ | refine And.intro (a := chkPend _ _ _ _ _ _) ?_ ?_ | refine And.intro (a := chkPast _ _ _ _ _ _ _ _) ?_ ?_ | refine ⟨⟨rfl, rfl⟩, ?_⟩ | refine And.intro (And.intro rfl rfl) ?_ | refine ⟨True.intro, ?_⟩ | refine ⟨_, ⟨_, rfl, ?_, rfl, rfl, rfl⟩, ?_⟩ | refine ⟨_, rfl, ?_, rfl, ?_⟩ | refine ⟨_, (fun _ => rfl), rfl, ?_⟩ | refine ⟨(fun _ => rfl), ?_⟩ | refine ⟨rfl, ?_⟩ | refine Opt.a ?_ | fail)
  · conv => whnf
    refine join_intro (σ := Unit) (fun _ => [(0, .sl blV x), (2, .nil), (6, .own 0)]) (fun _ => [.row 1 []]) (fun _ => True) ?_ ?_
    · repeat' (first | exact True.intro | refine ⟨_, LeL.refl _, ?_⟩ | refine ⟨_, _, _, LeL.refl _, ?_⟩ | (refine fun (b : Bool) hb => ?_; cases b <;> (first | exact absurd hb (by decide) | exact Bool.noConfusion (show true = false from hb) | exact Bool.noConfusion (show false = true from hb) | skip)) | (refine fun (hl : _ ≤ MAXL) => ?_) | refine And.intro (a := I64 _) ?_ ?_ | refine And.intro (a := _ ≤ 140737488355328) ?_ ?_ | refine ⟨_, ⟨rfl, rfl⟩, ?_⟩ | refine ⟨_, And.intro (a := I64 _) ?_ ⟨rfl, rfl⟩, ?_⟩ | refine ⟨_, _, ⟨rfl, rfl⟩, ?_⟩ | refine ⟨_, (fun _ => ⟨rfl, rfl⟩), ?_⟩ | refine And.intro (a := chkPend _ _ _ _ _ _) ?_ ?_ | refine And.intro (a := chkPast _ _ _ _ _ _ _ _) ?_ ?_ | refine ⟨⟨rfl, rfl⟩, ?_⟩ | refine And.intro (And.intro rfl rfl) ?_ | refine ⟨True.intro, ?_⟩ | refine ⟨_, ⟨_, rfl, ?_, rfl, rfl, rfl⟩, ?_⟩ | refine ⟨_, rfl, ?_, rfl, ?_⟩ | refine ⟨_, (fun _ => rfl), rfl, ?_⟩ | refine ⟨(fun _ => rfl), ?_⟩ | refine ⟨rfl, ?_⟩ | refine Opt.a ?_ | fail)
      · unfold I64; omega
      · unfold I64; omega
      · refine ⟨(), wk_sel [none] rfl rfl trivial ?_, trivial⟩
        (repeat' (first | exact True.intro | exact rfl | exact Or.inl rfl | exact Or.inr rfl | refine And.intro ?_ ?_ | fail))
      · refine ⟨(f i).length, by simp, by grind, by simp only [Nat.mul_one]; omega, ?_⟩
        refine fun _ => ?_
        refine ⟨0, rfl, Nat.zero_le _, ?_⟩
        refine ⟨(), wk_sel [some 1] rfl rfl ⟨rfl, trivial⟩ ?_, trivial⟩
        (repeat' (first | exact True.intro | exact rfl | exact Or.inl rfl | exact Or.inr rfl | refine And.intro ?_ ?_ | fail))
    intro _ _
    refine fun (hl : _ ≤ MAXL) => ?_
    conv => whnf
    refine loop_intro (σ := Nat) (fun i => [(0, .sl blV x), (2, .nil), (6, .own 0), (25, .sl blV x), (26, .int .i64 x.length), (27, .int .i64 i)]) (fun i => [.row 1 ((f i).map byteV)]) (fun i => i ≤ x.length) (fun i => x.length - i) 0 (wk_sel [some 0] rfl rfl ⟨?_, trivial⟩ ?_) (Nat.zero_le _) ?_
    · rw [f0]; exact rfl
    · (repeat' (first | exact True.intro | exact rfl | exact Or.inl rfl | exact Or.inr rfl | refine And.intro ?_ ?_ | fail))
    intro i hi
    have hs := fl i
    repeat' (first | exact True.intro | refine ⟨_, LeL.refl _, ?_⟩ | refine ⟨_, _, _, LeL.refl _, ?_⟩ | (refine fun (b : Bool) hb => ?_; cases b <;> (first | exact absurd hb (by decide) | exact Bool.noConfusion (show true = false from hb) | exact Bool.noConfusion (show false = true from hb) | skip)) | (refine fun (hl : _ ≤ MAXL) => ?_) | refine And.intro (a := I64 _) ?_ ?_ | refine And.intro (a := _ ≤ 140737488355328) ?_ ?_ | refine ⟨_, ⟨rfl, rfl⟩, ?_⟩ | refine ⟨_, And.intro (a := I64 _) ?_ ⟨rfl, rfl⟩, ?_⟩ | refine ⟨_, _, ⟨rfl, rfl⟩, ?_⟩ | refine ⟨_, (fun _ => ⟨rfl, rfl⟩), ?_⟩ | refine And.intro (a := chkPend _ _ _ _ _ _) ?_ ?_ | refine And.intro (a := chkPast _ _ _ _ _ _ _ _) ?_ ?_ | refine ⟨⟨rfl, rfl⟩, ?_⟩ | refine And.intro (And.intro rfl rfl) ?_ | refine ⟨True.intro, ?_⟩ | refine ⟨_, ⟨_, rfl, ?_, rfl, rfl, rfl⟩, ?_⟩ | refine ⟨_, rfl, ?_, rfl, ?_⟩ | refine ⟨_, (fun _ => rfl), rfl, ?_⟩ | refine ⟨(fun _ => rfl), ?_⟩ | refine ⟨rfl, ?_⟩ | refine Opt.a ?_ | refine ⟨UInt8, byteV, ?_⟩ | fail)
    · refine hK _ ?_
      rw [fN i (by grind)]
    · grind
    · have := fl (i + 1)
      rw [fS i (by grind)] at this
      simp only [List.length_append, List.length_map, blV, elsOf] at this ⊢
      omega
    · unfold I64; grind
    · refine ⟨i + 1, ?_, ?_, ?_⟩
      · refine wk_sel [some 1] rfl rfl ⟨?_, trivial⟩ ?_
        · rw [fS i (by grind), List.map_append]
          exact rfl
        · (repeat' (first | exact True.intro | exact rfl | exact Or.inl rfl | exact Or.inr rfl | refine And.intro ?_ ?_ | fail))
      · grind
      · grind
  · grind
  · unfold I64; grind
  · unfold I64; grind
  · refine ⟨i + 1, ?_, ?_, ?_⟩
    · refine wk_sel [] rfl rfl trivial ?_
      rw [fS i (by grind)]
      simp only [List.length_append]
      (repeat' (first | exact True.intro | exact rfl | exact Or.inl rfl | exact Or.inr rfl | refine And.intro ?_ ?_ | fail))
    · grind
    · grind
end Gv
namespace Gv
variable [Glob] [Laid]
theorem part_put (l : List Bs) (n k : Nat) : (put (part l n k)).length ≤ (put l).length := by
  have h1 := put_take_le l ((k + 1) * l.length / n)
  have h2 := congrArg (fun a => (put a).length) (List.take_append_drop (k * l.length / n) (l.take ((k + 1) * l.length / n)))
  simp only [put_append, List.length_append] at h2
  unfold Gp.part
  omega
theorem mul_cast_le {a b c : Nat} (h : a * b ≤ c) : (a : Int) * (b : Int) ≤ (c : Int) := by
  rw [← Int.natCast_mul]
  omega
theorem div_cast (k m n : Nat) : ((k : Int) * (m : Int)) / (n : Int) = ((k * m / n : Nat) : Int) := by
  rw [← Int.natCast_mul, ← Int.natCast_ediv]
theorem splitLines_ca : callable Tryz.prog 191 = true := by kernel_rfl
def splitLines_S : Spec := fun args K => ∃ (l : List Bs) (n : Nat), args = [.sl strV l, .int .i64 n] ∧ (1 ≤ n ∧ n ≤ 1000 ∧ (put l).length ≤ 1000000) ∧ K (.sl blV (splitLines l n))
noncomputable def splitLines_lib : List (Nat × Spec) := [(97, put_S)]
noncomputable def splitLines_fns : List (Nat × FnI) := []
noncomputable def splitLines_prims : List (Nat × PSpec) := []
theorem splitLines_E : EnvOK ⟨Tryz.prog, tys, splitLines_lib, splitLines_fns, splitLines_prims, []⟩ := env_ok mixed0 tys0 (.cons put_ca put_ok .nil) .nil .nil rfl
set_option maxHeartbeats 4000000 in
theorem splitLines_ok : Pure Tryz.prog 191 splitLines_S := by
  refine pure_by splitLines_E 6 (fi := {fn := Tryz.f191, hooks := [], draws := [(5, [0, 0, 0, 0, 8, 28, 0, 124, 0, 256, 0, 1024, 3840, 0, 16128, 32766, 65534, 131070, 262143, 524287])]}) ⟨Tryz.func191, by kernel_rfl, by kernel_rfl⟩ ?_
  rintro _ K ⟨l, n, rfl, ⟨hn1, hn2, hz⟩, hK⟩
  conv => whnf
  have hl1 := put_len (l := l) (n := 1000000) hz
  refine loop_live [0, 1, 7] (σ := Nat) (fun k => [(5, .own 0), (8, .int .i64 k)]) (fun k => [.row 1 (((splitLines l n).take k).map blV)]) (fun k => k ≤ n) (fun k => n - k) 0 ?_
  conv => whnf
  refine ⟨(by (refine wk_sel [none] rfl rfl ?_ ?_ <;> (repeat' (first | exact True.intro | exact rfl | exact Or.inl rfl | exact Or.inr rfl | refine And.intro ?_ ?_ | fail)))), Nat.zero_le _, fun k hk => ?_⟩
  have hsl : (splitLines l n).length = n := by simp [splitLines]
  have hml : k * l.length ≤ 1000000000 := Nat.mul_le_mul (show k ≤ 1000 by omega) hl1
  have hml2 : (k + 1) * l.length ≤ 1001000000 := Nat.mul_le_mul (show k + 1 ≤ 1001 by omega) hl1
  have hml3 := mul_cast_le hml
  have hml4 : ((k : Int) + 1) * (l.length : Int) ≤ ((1001000000 : Nat) : Int) := mul_cast_le hml2
  have hml5 : 0 ≤ (k : Int) * l.length := Int.mul_nonneg (by omega) (by omega)
  have hml6 : 0 ≤ ((k : Int) + 1) * l.length := Int.mul_nonneg (by omega) (by omega)
  have hbd := part_bnd l.length n k (by omega)
  have hpp := part_put l n k
  repeat' (first | exact True.intro | refine ⟨_, LeL.refl _, ?_⟩ | refine ⟨_, _, _, LeL.refl _, ?_⟩ | (refine fun (b : Bool) hb => ?_; cases b <;> (first | exact absurd hb (by decide) | exact Bool.noConfusion (show true = false from hb) | exact Bool.noConfusion (show false = true from hb) | skip)) | (refine fun (hl : _ ≤ MAXL) => ?_) | refine And.intro (a := I64 _) ?_ ?_ | refine And.intro (a := _ ≤ 140737488355328) ?_ ?_ | refine ⟨_, ⟨rfl, rfl⟩, ?_⟩ | refine ⟨_, And.intro (a := I64 _) ?_ ⟨rfl, rfl⟩, ?_⟩ | refine ⟨_, _, ⟨rfl, rfl⟩, ?_⟩ | refine ⟨_, (fun _ => ⟨rfl, rfl⟩), ?_⟩ | refine And.intro (a := chkPend _ _ _ _ _ _) ?_ ?_ | refine And.intro (a := chkPast _ _ _ _ _ _ _ _) ?_ ?_ | refine ⟨⟨rfl, rfl⟩, ?_⟩ | refine And.intro (And.intro rfl rfl) ?_ | refine ⟨True.intro, ?_⟩ | refine ⟨_, ⟨_, rfl, ?_, rfl, rfl, rfl⟩, ?_⟩ | refine ⟨_, rfl, ?_, rfl, ?_⟩ | refine ⟨_, (fun _ => rfl), rfl, ?_⟩ | refine ⟨(fun _ => rfl), ?_⟩ | refine ⟨rfl, ?_⟩ | refine Opt.a ?_ | fail)
  · rw [List.take_of_length_le (by grind)]
    exact hK
  · exact ⟨by omega, by omega⟩
  refine ⟨_, ⟨⟨hml5, by omega, by omega⟩, rfl, rfl⟩, ?_⟩
  repeat' (first | exact True.intro | refine ⟨_, LeL.refl _, ?_⟩ | refine ⟨_, _, _, LeL.refl _, ?_⟩ | (refine fun (b : Bool) hb => ?_; cases b <;> (first | exact absurd hb (by decide) | exact Bool.noConfusion (show true = false from hb) | exact Bool.noConfusion (show false = true from hb) | skip)) | (refine fun (hl : _ ≤ MAXL) => ?_) | refine And.intro (a := I64 _) ?_ ?_ | refine And.intro (a := _ ≤ 140737488355328) ?_ ?_ | refine ⟨_, ⟨rfl, rfl⟩, ?_⟩ | refine ⟨_, And.intro (a := I64 _) ?_ ⟨rfl, rfl⟩, ?_⟩ | refine ⟨_, _, ⟨rfl, rfl⟩, ?_⟩ | refine ⟨_, (fun _ => ⟨rfl, rfl⟩), ?_⟩ | refine And.intro (a := chkPend _ _ _ _ _ _) ?_ ?_ | refine And.intro (a := chkPast _ _ _ _ _ _ _ _) ?_ ?_ | refine ⟨⟨rfl, rfl⟩, ?_⟩ | refine And.intro (And.intro rfl rfl) ?_ | refine ⟨True.intro, ?_⟩ | refine ⟨_, ⟨_, rfl, ?_, rfl, rfl, rfl⟩, ?_⟩ | refine ⟨_, rfl, ?_, rfl, ?_⟩ | refine ⟨_, (fun _ => rfl), rfl, ?_⟩ | refine ⟨(fun _ => rfl), ?_⟩ | refine ⟨rfl, ?_⟩ | refine Opt.a ?_ | fail)
  · exact ⟨by omega, by omega⟩
  · exact ⟨by omega, by omega⟩
  refine ⟨_, ⟨⟨hml6, by omega, by omega⟩, rfl, rfl⟩, ?_⟩
  refine ⟨_, ⟨fun _ => rfl, k * l.length / n, (k + 1) * l.length / n, div_cast _ _ _, div_cast (k + 1) _ _, Nat.le_trans (Nat.le_add_right _ _) hbd.1, ?_, rfl, rfl⟩, ?_⟩
  · exact Nat.div_le_of_le_mul (Nat.mul_le_mul_right _ (by grind))
  refine ⟨_, ⟨Gp.part l n k, rfl, by omega, rfl, rfl⟩, ?_⟩
  refine ⟨_, ⟨Bs, blV, [put (Gp.part l n k)], LeL.refl _, rfl, rfl⟩, ?_⟩
  repeat' (first | exact True.intro | refine ⟨_, LeL.refl _, ?_⟩ | refine ⟨_, _, _, LeL.refl _, ?_⟩ | (refine fun (b : Bool) hb => ?_; cases b <;> (first | exact absurd hb (by decide) | exact Bool.noConfusion (show true = false from hb) | exact Bool.noConfusion (show false = true from hb) | skip)) | (refine fun (hl : _ ≤ MAXL) => ?_) | refine And.intro (a := I64 _) ?_ ?_ | refine And.intro (a := _ ≤ 140737488355328) ?_ ?_ | refine ⟨_, ⟨rfl, rfl⟩, ?_⟩ | refine ⟨_, And.intro (a := I64 _) ?_ ⟨rfl, rfl⟩, ?_⟩ | refine ⟨_, _, ⟨rfl, rfl⟩, ?_⟩ | refine ⟨_, (fun _ => ⟨rfl, rfl⟩), ?_⟩ | refine And.intro (a := chkPend _ _ _ _ _ _) ?_ ?_ | refine And.intro (a := chkPast _ _ _ _ _ _ _ _) ?_ ?_ | refine ⟨⟨rfl, rfl⟩, ?_⟩ | refine And.intro (And.intro rfl rfl) ?_ | refine ⟨True.intro, ?_⟩ | refine ⟨_, ⟨_, rfl, ?_, rfl, rfl, rfl⟩, ?_⟩ | refine ⟨_, rfl, ?_, rfl, ?_⟩ | refine ⟨_, (fun _ => rfl), rfl, ?_⟩ | refine ⟨(fun _ => rfl), ?_⟩ | refine ⟨rfl, ?_⟩ | refine Opt.a ?_ | fail)
  refine ⟨_, _, ⟨fun _ => rfl, ?_, rfl, rfl⟩, ?_⟩
  · simp only [List.length_map, List.length_take, List.length_cons, List.length_nil, elsOf]
    omega
  repeat' (first | exact True.intro | refine ⟨_, LeL.refl _, ?_⟩ | refine ⟨_, _, _, LeL.refl _, ?_⟩ | (refine fun (b : Bool) hb => ?_; cases b <;> (first | exact absurd hb (by decide) | exact Bool.noConfusion (show true = false from hb) | exact Bool.noConfusion (show false = true from hb) | skip)) | (refine fun (hl : _ ≤ MAXL) => ?_) | refine And.intro (a := I64 _) ?_ ?_ | refine And.intro (a := _ ≤ 140737488355328) ?_ ?_ | refine ⟨_, ⟨rfl, rfl⟩, ?_⟩ | refine ⟨_, And.intro (a := I64 _) ?_ ⟨rfl, rfl⟩, ?_⟩ | refine ⟨_, _, ⟨rfl, rfl⟩, ?_⟩ | refine ⟨_, (fun _ => ⟨rfl, rfl⟩), ?_⟩ | refine And.intro (a := chkPend _ _ _ _ _ _) ?_ ?_ | refine And.intro (a := chkPast _ _ _ _ _ _ _ _) ?_ ?_ | refine ⟨⟨rfl, rfl⟩, ?_⟩ | refine And.intro (And.intro rfl rfl) ?_ | refine ⟨True.intro, ?_⟩ | refine ⟨_, ⟨_, rfl, ?_, rfl, rfl, rfl⟩, ?_⟩ | refine ⟨_, rfl, ?_, rfl, ?_⟩ | refine ⟨_, (fun _ => rfl), rfl, ?_⟩ | refine ⟨(fun _ => rfl), ?_⟩ | refine ⟨rfl, ?_⟩ | refine Opt.a ?_ | fail)
  · (first | omega | (unfold I64; omega) | (simp only [List.length_append, List.length_map, List.length_cons, List.length_nil, Nat.mul_one, Int.ofNat_eq_natCast] at *; omega) | (dsimp only at *; omega) | (unfold I64; dsimp only at *; omega) | (unfold I64; grind) | grind)
  · have hk2 : k < n := by grind
    refine ⟨k + 1, ?_, by omega, by omega⟩
    refine wk_sel [some 1] rfl rfl ⟨?_, trivial⟩ ?_
    · rw [List.take_succ_eq_append_getElem (by omega), List.map_append]
      have : (splitLines l n)[k]'(by omega) = put (Gp.part l n k) := by simp [splitLines]
      rw [this]
      exact rfl
    · (repeat' (first | exact True.intro | exact rfl | exact Or.inl rfl | exact Or.inr rfl | refine And.intro ?_ ?_ | fail))
end Gv
namespace Gv
variable [Glob] [Laid]
theorem containsS_ca : callable Tryz.prog 104 = true := by kernel_rfl
def containsS_S : Spec := fun args K => ∃ (s sub : Bs), args = [.str s, .str sub] ∧ s.length < 4294967281 ∧ K (.bool (Lib.contains s sub))
set_option maxHeartbeats 4000000 in
theorem containsS_ok : Pure Tryz.prog 104 containsS_S := by
  intro w m args us K hm hg hv hT
  obtain ⟨s, sub, rfl, h1, hK⟩ := hT
  obtain ⟨a, b, rfl, ha, hb⟩ := args2 hv.1 hv.2
  obtain ⟨rfl, -⟩ := vr_str ha
  obtain ⟨rfl, -⟩ := vr_str hb
  obtain ⟨n, hn⟩ := Laid.maxlen w (fun b o e => hm b o (hg b o e))
  refine (Tryz.strings_Contains (ba s) (ba sub) n w (by rw [ba_size]; exact h1) hn).mono fun e w' ⟨he, hw⟩ => ?_
  subst hw
  exact ⟨_, _, he, Bel.refl _ _, hK, .bool⟩
end Gv
namespace Gv
variable [Glob] [Laid]
theorem replaceS_ca : callable Tryz.prog 229 = true := by kernel_rfl
def replaceS_S : Spec := fun args K => ∃ (s old new : Bs), args = [.str s, .str old, .str new] ∧ (s.length < 4294967281 ∧ 1 ≤ old.length ∧ s.length + Lib.count s old * new.length ≤ 140737488355328 ∧ (Lib.replaceAll s old new).length ≤ MAXL) ∧ K (.str (Lib.replaceAll s old new))
set_option maxHeartbeats 4000000 in
theorem replaceS_ok : Pure Tryz.prog 229 replaceS_S := by
  intro w m args us K hm hg hv hT
  obtain ⟨s, old, new, rfl, ⟨h1, h2, h3, h4⟩, hK⟩ := hT
  obtain ⟨a, b, c, rfl, ha, hb, hc⟩ := args3 hv.1 hv.2
  obtain ⟨rfl, -⟩ := vr_str ha
  obtain ⟨rfl, -⟩ := vr_str hb
  obtain ⟨rfl, -⟩ := vr_str hc
  obtain ⟨n, hn⟩ := Laid.maxlen w (fun b o e => hm b o (hg b o e))
  refine (Tryz.strings_ReplaceAll (ba s) (ba old) (ba new) n w (by rw [ba_size]; exact h1) hn (by rw [ba_size]; exact h2) (by rw [ba_size, ba_size]; exact h3)).mono fun e w' ⟨he, hw⟩ => ?_
  exact ⟨_, _, he, Bel.of_below hw, hK, .str h4⟩
end Gv
namespace Gv
variable [Glob] [Laid]
theorem splitS_ca : callable Tryz.prog 105 = true := by kernel_rfl
def splitS_S : Spec := fun args K => ∃ (s sep : Bs), args = [.str s, .str sep] ∧ (s.length < 4294967281 ∧ 1 ≤ sep.length) ∧ K (.sl strV (Lib.split s sep))
set_option maxHeartbeats 4000000 in
theorem splitS_ok : Pure Tryz.prog 105 splitS_S := by
  intro w m args us K hm hg hv hT
  obtain ⟨s, sep, rfl, ⟨h1, h2⟩, hK⟩ := hT
  obtain ⟨a, b, rfl, ha, hb⟩ := args2 hv.1 hv.2
  obtain ⟨rfl, -⟩ := vr_str ha
  obtain ⟨rfl, -⟩ := vr_str hb
  obtain ⟨n, hn⟩ := Laid.maxlen w (fun b o e => hm b o (hg b o e))
  refine (Tryz.strings_Split (ba s) (ba sep) n w (by rw [ba_size]; exact h1) hn (by rw [ba_size]; exact h2)).mono fun e w' ⟨he, hw⟩ => ?_
  subst hw
  rw [split_cells] at *
  have hc : Lib.countB (ba s) (ba sep) + 1 = (Lib.split s sep).length := (split_len s sep h2).symm
  have hle : (Lib.split s sep).length ≤ s.length + 2 := by
    rw [← hc]
    have := Lib.count_le s sep
    show Lib.count s sep + 1 ≤ _
    omega
  refine ⟨_, _, by rw [he, hc], Bel.alloc [] w _, hK, strs_new (Gw.heap_alloc_new w _) (by unfold MAXL; omega) fun x hx => ?_⟩
  have := splitK_le sep _ s x hx
  unfold MAXL
  omega
end Gv
namespace Gv
variable [Glob] [Laid]
def swp (l : Bs) (i : Nat) : Bs := (List.range l.length).map fun k => if k < i ∨ l.length - 1 - k < i then l.getD (l.length - 1 - k) 0 else l.getD k 0
theorem swp_len (l : Bs) (i : Nat) : (swp l i).length = l.length := by simp [swp]
theorem swp_0 (l : Bs) : swp l 0 = l := by
  refine List.ext_getElem (by simp [swp]) fun i h1 h2 => ?_
  simp [swp, h2]
theorem swp_end (l : Bs) (i : Nat) (h : l.length ≤ 2 * i + 1) : swp l i = l.reverse := by
  refine List.ext_getElem (by simp [swp]) fun k h1 h2 => ?_
  have hk : k < l.length := by simpa using h2
  simp only [swp, List.getElem_map, List.getElem_range, List.getElem_reverse]
  by_cases hc : k < i ∨ l.length - 1 - k < i
  · rw [if_pos hc, List.getD_eq_getElem?_getD, List.getElem?_eq_getElem (by omega)]
    rfl
  · rw [if_neg hc, List.getD_eq_getElem?_getD, List.getElem?_eq_getElem hk]
    have e : l.length - 1 - k = k := by omega
    simp only [e]
    rfl
theorem swp_next (l : Bs) (i : Nat) (h : 2 * i + 1 < l.length) : ((swp l i).set i (l.getD (l.length - 1 - i) 0)).set (l.length - 1 - i) (l.getD i 0) = swp l (i + 1) := by
  refine List.ext_getElem (by simp [swp]) fun k h1 h2 => ?_
  have hk : k < l.length := by simpa [swp] using h2
  rw [List.getElem_set, List.getElem_set]
  simp only [swp, List.getElem_map, List.getElem_range]
  by_cases e1 : l.length - 1 - i = k
  · rw [if_pos e1, if_pos (by omega)]
    have : l.length - 1 - k = i := by omega
    rw [this]
  · rw [if_neg e1]
    by_cases e2 : i = k
    · rw [if_pos e2, if_pos (by omega), e2]
    · rw [if_neg e2]
      by_cases hc : k < i ∨ l.length - 1 - k < i
      · rw [if_pos hc, if_pos (by omega)]
      · rw [if_neg hc, if_neg (by omega)]
theorem swp_at (l : Bs) (i k : Nat) (hk : k < l.length) (h : ¬ (k < i ∨ l.length - 1 - k < i)) : (swp l i)[k]? = some (l.getD k 0) := by
  unfold swp
  rw [List.getElem?_map, List.getElem?_range hk]
  simp only [Option.map_some]
  rw [if_neg h]
theorem revB_ca : callable Tryz.prog 230 = true := by kernel_rfl
def revB_P : PSpec := fun args rows K => ∃ (l : Bs), args = [.own 0] ∧ rows = [.row 1 (l.map byteV)] ∧ l.length ≤ 1000000 ∧ K (.tup []) [.row 1 (l.reverse.map byteV)]
noncomputable def revB_lib : List (Nat × Spec) := []
noncomputable def revB_fns : List (Nat × FnI) := []
noncomputable def revB_prims : List (Nat × PSpec) := []
theorem revB_E : EnvOK ⟨Tryz.prog, tys, revB_lib, revB_fns, revB_prims, []⟩ := env_ok mixed0 tys0 .nil .nil .nil rfl
set_option maxHeartbeats 4000000 in
theorem revB_prim : PrimOK Tryz.prog 230 revB_P := by
  refine prim_by revB_E 6 revB_ca (fi := {fn := Tryz.f230, hooks := [], draws := [(3, [0, 0, 0, 0, 0, 0, 48, 112, 0, 0, 768, 1792, 4083, 8179, 16383, 32767])]}) ⟨Tryz.func230, by kernel_rfl, by kernel_rfl⟩ ?_
  rintro args rows K ⟨l, rfl, rfl, hz, hK⟩
  repeat' (first | exact True.intro | refine ⟨_, LeL.refl _, ?_⟩ | refine ⟨_, _, _, LeL.refl _, ?_⟩ | (refine fun (b : Bool) hb => ?_; cases b <;> (first | exact absurd hb (by decide) | exact Bool.noConfusion (show true = false from hb) | exact Bool.noConfusion (show false = true from hb) | skip)) | (refine fun (hl : _ ≤ MAXL) => ?_) | refine And.intro (a := I64 _) ?_ ?_ | refine And.intro (a := _ ≤ 140737488355328) ?_ ?_ | refine ⟨_, ⟨rfl, rfl⟩, ?_⟩ | refine ⟨_, And.intro (a := I64 _) ?_ ⟨rfl, rfl⟩, ?_⟩ | refine ⟨_, _, ⟨rfl, rfl⟩, ?_⟩ | refine ⟨_, (fun _ => ⟨rfl, rfl⟩), ?_⟩ | refine And.intro (a := chkPend _ _ _ _ _ _) ?_ ?_ | refine And.intro (a := chkPast _ _ _ _ _ _ _ _) ?_ ?_ | refine ⟨⟨rfl, rfl⟩, ?_⟩ | refine And.intro (And.intro rfl rfl) ?_ | refine ⟨True.intro, ?_⟩ | refine ⟨_, ⟨_, rfl, ?_, rfl, rfl, rfl⟩, ?_⟩ | refine ⟨_, rfl, ?_, rfl, ?_⟩ | refine ⟨_, (fun _ => rfl), rfl, ?_⟩ | refine ⟨(fun _ => rfl), ?_⟩ | refine ⟨rfl, ?_⟩ | refine Opt.a ?_ | fail)
  · (first | omega | (unfold I64; omega) | (simp only [List.length_append, List.length_map, List.length_cons, List.length_nil, Nat.mul_one, Int.ofNat_eq_natCast] at *; omega) | (dsimp only at *; omega) | (unfold I64; dsimp only at *; omega) | (unfold I64; grind) | grind)
  conv => whnf
  refine loop_live [0] (σ := Nat × Int × Bs) (fun s => [(2, .int .i64 s.1), (3, .int .i64 s.2.1)]) (fun s => [.row 1 (s.2.2.map byteV)]) (fun s => s.2.1 = (l.length : Int) - 1 - s.1 ∧ s.2.2 = swp l s.1 ∧ 2 * s.1 ≤ l.length + 1) (fun s => l.length + 1 - s.1) (0, ((l.map byteV).length : Int) - 1, l) ?_
  conv => whnf
  refine ⟨(by (refine wk_auto ?_; refine Sel4.mk rfl rfl ?_ ?_ <;> (repeat' (first | exact True.intro | exact rfl | exact Or.inl rfl | exact Or.inr rfl | refine And.intro ?_ ?_ | fail)))), ⟨by simp, (swp_0 l).symm, by omega⟩, fun s hs => ?_⟩
  obtain ⟨i, j, d⟩ := s
  obtain ⟨hj, hd, hi⟩ := hs
  dsimp only at hj hd hi
  have hdl : d.length = l.length := by rw [hd, swp_len]
  repeat' (first | exact True.intro | refine ⟨_, LeL.refl _, ?_⟩ | refine ⟨_, _, _, LeL.refl _, ?_⟩ | (refine fun (b : Bool) hb => ?_; cases b <;> (first | exact absurd hb (by decide) | exact Bool.noConfusion (show true = false from hb) | exact Bool.noConfusion (show false = true from hb) | skip)) | (refine fun (hl : _ ≤ MAXL) => ?_) | refine And.intro (a := I64 _) ?_ ?_ | refine And.intro (a := _ ≤ 140737488355328) ?_ ?_ | refine ⟨_, ⟨rfl, rfl⟩, ?_⟩ | refine ⟨_, And.intro (a := I64 _) ?_ ⟨rfl, rfl⟩, ?_⟩ | refine ⟨_, _, ⟨rfl, rfl⟩, ?_⟩ | refine ⟨_, (fun _ => ⟨rfl, rfl⟩), ?_⟩ | refine And.intro (a := chkPend _ _ _ _ _ _) ?_ ?_ | refine And.intro (a := chkPast _ _ _ _ _ _ _ _) ?_ ?_ | refine ⟨⟨rfl, rfl⟩, ?_⟩ | refine And.intro (And.intro rfl rfl) ?_ | refine ⟨True.intro, ?_⟩ | refine ⟨_, ⟨_, rfl, ?_, rfl, rfl, rfl⟩, ?_⟩ | refine ⟨_, rfl, ?_, rfl, ?_⟩ | refine ⟨_, (fun _ => rfl), rfl, ?_⟩ | refine ⟨(fun _ => rfl), ?_⟩ | refine ⟨rfl, ?_⟩ | refine Opt.a ?_ | fail)
  · have hij : ¬ (i : Int) < j := of_decide_eq_false (by assumption)
    have : d = l.reverse := by rw [hd, swp_end _ _ (by omega)]
    rw [this]
    conv => whnf
    exact hK
  have hij : (i : Int) < j := of_decide_eq_true (by assumption)
  obtain ⟨k, hk⟩ : ∃ k : Nat, j = k := ⟨j.toNat, by omega⟩
  subst hk
  have hkl : k < d.length := by omega
  have hil : i < d.length := by omega
  have gk : (List.map byteV d)[k]? = some (byteV d[k]) := by rw [List.getElem?_map, List.getElem?_eq_getElem hkl]; rfl
  have gi : (List.map byteV d)[i]? = some (byteV d[i]) := by rw [List.getElem?_map, List.getElem?_eq_getElem hil]; rfl
  refine ⟨_, ⟨rfl, k, rfl, by simpa using hkl, ⟨rfl, rfl⟩⟩, ?_⟩
  repeat' (first | exact True.intro | refine ⟨_, LeL.refl _, ?_⟩ | refine ⟨_, _, _, LeL.refl _, ?_⟩ | (refine fun (b : Bool) hb => ?_; cases b <;> (first | exact absurd hb (by decide) | exact Bool.noConfusion (show true = false from hb) | exact Bool.noConfusion (show false = true from hb) | skip)) | (refine fun (hl : _ ≤ MAXL) => ?_) | refine And.intro (a := I64 _) ?_ ?_ | refine And.intro (a := _ ≤ 140737488355328) ?_ ?_ | refine ⟨_, ⟨rfl, rfl⟩, ?_⟩ | refine ⟨_, And.intro (a := I64 _) ?_ ⟨rfl, rfl⟩, ?_⟩ | refine ⟨_, _, ⟨rfl, rfl⟩, ?_⟩ | refine ⟨_, (fun _ => ⟨rfl, rfl⟩), ?_⟩ | refine And.intro (a := chkPend _ _ _ _ _ _) ?_ ?_ | refine And.intro (a := chkPast _ _ _ _ _ _ _ _) ?_ ?_ | refine ⟨⟨rfl, rfl⟩, ?_⟩ | refine And.intro (And.intro rfl rfl) ?_ | refine ⟨True.intro, ?_⟩ | refine ⟨_, ⟨_, rfl, ?_, rfl, rfl, rfl⟩, ?_⟩ | refine ⟨_, rfl, ?_, rfl, ?_⟩ | refine ⟨_, (fun _ => rfl), rfl, ?_⟩ | refine ⟨(fun _ => rfl), ?_⟩ | refine ⟨rfl, ?_⟩ | refine Opt.a ?_ | fail)
  conv => whnf
  refine ⟨_, ⟨_, gk, ⟨rfl, rfl⟩⟩, ?_⟩
  repeat' (first | exact True.intro | refine ⟨_, LeL.refl _, ?_⟩ | refine ⟨_, _, _, LeL.refl _, ?_⟩ | (refine fun (b : Bool) hb => ?_; cases b <;> (first | exact absurd hb (by decide) | exact Bool.noConfusion (show true = false from hb) | exact Bool.noConfusion (show false = true from hb) | skip)) | (refine fun (hl : _ ≤ MAXL) => ?_) | refine And.intro (a := I64 _) ?_ ?_ | refine And.intro (a := _ ≤ 140737488355328) ?_ ?_ | refine ⟨_, ⟨rfl, rfl⟩, ?_⟩ | refine ⟨_, And.intro (a := I64 _) ?_ ⟨rfl, rfl⟩, ?_⟩ | refine ⟨_, _, ⟨rfl, rfl⟩, ?_⟩ | refine ⟨_, (fun _ => ⟨rfl, rfl⟩), ?_⟩ | refine And.intro (a := chkPend _ _ _ _ _ _) ?_ ?_ | refine And.intro (a := chkPast _ _ _ _ _ _ _ _) ?_ ?_ | refine ⟨⟨rfl, rfl⟩, ?_⟩ | refine And.intro (And.intro rfl rfl) ?_ | refine ⟨True.intro, ?_⟩ | refine ⟨_, ⟨_, rfl, ?_, rfl, rfl, rfl⟩, ?_⟩ | refine ⟨_, rfl, ?_, rfl, ?_⟩ | refine ⟨_, (fun _ => rfl), rfl, ?_⟩ | refine ⟨(fun _ => rfl), ?_⟩ | refine ⟨rfl, ?_⟩ | refine Opt.a ?_ | fail)
  conv => whnf
  refine ⟨_, ⟨rfl, i, rfl, by simpa using hil, ⟨rfl, rfl⟩⟩, ?_⟩
  repeat' (first | exact True.intro | refine ⟨_, LeL.refl _, ?_⟩ | refine ⟨_, _, _, LeL.refl _, ?_⟩ | (refine fun (b : Bool) hb => ?_; cases b <;> (first | exact absurd hb (by decide) | exact Bool.noConfusion (show true = false from hb) | exact Bool.noConfusion (show false = true from hb) | skip)) | (refine fun (hl : _ ≤ MAXL) => ?_) | refine And.intro (a := I64 _) ?_ ?_ | refine And.intro (a := _ ≤ 140737488355328) ?_ ?_ | refine ⟨_, ⟨rfl, rfl⟩, ?_⟩ | refine ⟨_, And.intro (a := I64 _) ?_ ⟨rfl, rfl⟩, ?_⟩ | refine ⟨_, _, ⟨rfl, rfl⟩, ?_⟩ | refine ⟨_, (fun _ => ⟨rfl, rfl⟩), ?_⟩ | refine And.intro (a := chkPend _ _ _ _ _ _) ?_ ?_ | refine And.intro (a := chkPast _ _ _ _ _ _ _ _) ?_ ?_ | refine ⟨⟨rfl, rfl⟩, ?_⟩ | refine And.intro (And.intro rfl rfl) ?_ | refine ⟨True.intro, ?_⟩ | refine ⟨_, ⟨_, rfl, ?_, rfl, rfl, rfl⟩, ?_⟩ | refine ⟨_, rfl, ?_, rfl, ?_⟩ | refine ⟨_, (fun _ => rfl), rfl, ?_⟩ | refine ⟨(fun _ => rfl), ?_⟩ | refine ⟨rfl, ?_⟩ | refine Opt.a ?_ | fail)
  conv => whnf
  refine ⟨_, ⟨_, gi, ⟨rfl, rfl⟩⟩, ?_⟩
  repeat' (first | exact True.intro | refine ⟨_, LeL.refl _, ?_⟩ | refine ⟨_, _, _, LeL.refl _, ?_⟩ | (refine fun (b : Bool) hb => ?_; cases b <;> (first | exact absurd hb (by decide) | exact Bool.noConfusion (show true = false from hb) | exact Bool.noConfusion (show false = true from hb) | skip)) | (refine fun (hl : _ ≤ MAXL) => ?_) | refine And.intro (a := I64 _) ?_ ?_ | refine And.intro (a := _ ≤ 140737488355328) ?_ ?_ | refine ⟨_, ⟨rfl, rfl⟩, ?_⟩ | refine ⟨_, And.intro (a := I64 _) ?_ ⟨rfl, rfl⟩, ?_⟩ | refine ⟨_, _, ⟨rfl, rfl⟩, ?_⟩ | refine ⟨_, (fun _ => ⟨rfl, rfl⟩), ?_⟩ | refine And.intro (a := chkPend _ _ _ _ _ _) ?_ ?_ | refine And.intro (a := chkPast _ _ _ _ _ _ _ _) ?_ ?_ | refine ⟨⟨rfl, rfl⟩, ?_⟩ | refine And.intro (And.intro rfl rfl) ?_ | refine ⟨True.intro, ?_⟩ | refine ⟨_, ⟨_, rfl, ?_, rfl, rfl, rfl⟩, ?_⟩ | refine ⟨_, rfl, ?_, rfl, ?_⟩ | refine ⟨_, (fun _ => rfl), rfl, ?_⟩ | refine ⟨(fun _ => rfl), ?_⟩ | refine ⟨rfl, ?_⟩ | refine Opt.a ?_ | fail)
  conv => whnf
  refine ⟨_, ⟨rfl, i, rfl, by simpa using hil, ⟨rfl, rfl⟩⟩, ?_⟩
  repeat' (first | exact True.intro | refine ⟨_, LeL.refl _, ?_⟩ | refine ⟨_, _, _, LeL.refl _, ?_⟩ | (refine fun (b : Bool) hb => ?_; cases b <;> (first | exact absurd hb (by decide) | exact Bool.noConfusion (show true = false from hb) | exact Bool.noConfusion (show false = true from hb) | skip)) | (refine fun (hl : _ ≤ MAXL) => ?_) | refine And.intro (a := I64 _) ?_ ?_ | refine And.intro (a := _ ≤ 140737488355328) ?_ ?_ | refine ⟨_, ⟨rfl, rfl⟩, ?_⟩ | refine ⟨_, And.intro (a := I64 _) ?_ ⟨rfl, rfl⟩, ?_⟩ | refine ⟨_, _, ⟨rfl, rfl⟩, ?_⟩ | refine ⟨_, (fun _ => ⟨rfl, rfl⟩), ?_⟩ | refine And.intro (a := chkPend _ _ _ _ _ _) ?_ ?_ | refine And.intro (a := chkPast _ _ _ _ _ _ _ _) ?_ ?_ | refine ⟨⟨rfl, rfl⟩, ?_⟩ | refine And.intro (And.intro rfl rfl) ?_ | refine ⟨True.intro, ?_⟩ | refine ⟨_, ⟨_, rfl, ?_, rfl, rfl, rfl⟩, ?_⟩ | refine ⟨_, rfl, ?_, rfl, ?_⟩ | refine ⟨_, (fun _ => rfl), rfl, ?_⟩ | refine ⟨(fun _ => rfl), ?_⟩ | refine ⟨rfl, ?_⟩ | refine Opt.a ?_ | fail)
  refine ⟨_, _, ⟨by simpa using hil, rfl, rfl⟩, ?_⟩
  repeat' (first | exact True.intro | refine ⟨_, LeL.refl _, ?_⟩ | refine ⟨_, _, _, LeL.refl _, ?_⟩ | (refine fun (b : Bool) hb => ?_; cases b <;> (first | exact absurd hb (by decide) | exact Bool.noConfusion (show true = false from hb) | exact Bool.noConfusion (show false = true from hb) | skip)) | (refine fun (hl : _ ≤ MAXL) => ?_) | refine And.intro (a := I64 _) ?_ ?_ | refine And.intro (a := _ ≤ 140737488355328) ?_ ?_ | refine ⟨_, ⟨rfl, rfl⟩, ?_⟩ | refine ⟨_, And.intro (a := I64 _) ?_ ⟨rfl, rfl⟩, ?_⟩ | refine ⟨_, _, ⟨rfl, rfl⟩, ?_⟩ | refine ⟨_, (fun _ => ⟨rfl, rfl⟩), ?_⟩ | refine And.intro (a := chkPend _ _ _ _ _ _) ?_ ?_ | refine And.intro (a := chkPast _ _ _ _ _ _ _ _) ?_ ?_ | refine ⟨⟨rfl, rfl⟩, ?_⟩ | refine And.intro (And.intro rfl rfl) ?_ | refine ⟨True.intro, ?_⟩ | refine ⟨_, ⟨_, rfl, ?_, rfl, rfl, rfl⟩, ?_⟩ | refine ⟨_, rfl, ?_, rfl, ?_⟩ | refine ⟨_, (fun _ => rfl), rfl, ?_⟩ | refine ⟨(fun _ => rfl), ?_⟩ | refine ⟨rfl, ?_⟩ | refine Opt.a ?_ | fail)
  conv => whnf
  refine ⟨_, ⟨rfl, k, rfl, by simpa using hkl, ⟨rfl, rfl⟩⟩, ?_⟩
  repeat' (first | exact True.intro | refine ⟨_, LeL.refl _, ?_⟩ | refine ⟨_, _, _, LeL.refl _, ?_⟩ | (refine fun (b : Bool) hb => ?_; cases b <;> (first | exact absurd hb (by decide) | exact Bool.noConfusion (show true = false from hb) | exact Bool.noConfusion (show false = true from hb) | skip)) | (refine fun (hl : _ ≤ MAXL) => ?_) | refine And.intro (a := I64 _) ?_ ?_ | refine And.intro (a := _ ≤ 140737488355328) ?_ ?_ | refine ⟨_, ⟨rfl, rfl⟩, ?_⟩ | refine ⟨_, And.intro (a := I64 _) ?_ ⟨rfl, rfl⟩, ?_⟩ | refine ⟨_, _, ⟨rfl, rfl⟩, ?_⟩ | refine ⟨_, (fun _ => ⟨rfl, rfl⟩), ?_⟩ | refine And.intro (a := chkPend _ _ _ _ _ _) ?_ ?_ | refine And.intro (a := chkPast _ _ _ _ _ _ _ _) ?_ ?_ | refine ⟨⟨rfl, rfl⟩, ?_⟩ | refine And.intro (And.intro rfl rfl) ?_ | refine ⟨True.intro, ?_⟩ | refine ⟨_, ⟨_, rfl, ?_, rfl, rfl, rfl⟩, ?_⟩ | refine ⟨_, rfl, ?_, rfl, ?_⟩ | refine ⟨_, (fun _ => rfl), rfl, ?_⟩ | refine ⟨(fun _ => rfl), ?_⟩ | refine ⟨rfl, ?_⟩ | refine Opt.a ?_ | fail)
  conv => whnf
  refine ⟨_, _, ⟨by simpa using hkl, rfl, rfl⟩, ?_⟩
  repeat' (first | exact True.intro | refine ⟨_, LeL.refl _, ?_⟩ | refine ⟨_, _, _, LeL.refl _, ?_⟩ | (refine fun (b : Bool) hb => ?_; cases b <;> (first | exact absurd hb (by decide) | exact Bool.noConfusion (show true = false from hb) | exact Bool.noConfusion (show false = true from hb) | skip)) | (refine fun (hl : _ ≤ MAXL) => ?_) | refine And.intro (a := I64 _) ?_ ?_ | refine And.intro (a := _ ≤ 140737488355328) ?_ ?_ | refine ⟨_, ⟨rfl, rfl⟩, ?_⟩ | refine ⟨_, And.intro (a := I64 _) ?_ ⟨rfl, rfl⟩, ?_⟩ | refine ⟨_, _, ⟨rfl, rfl⟩, ?_⟩ | refine ⟨_, (fun _ => ⟨rfl, rfl⟩), ?_⟩ | refine And.intro (a := chkPend _ _ _ _ _ _) ?_ ?_ | refine And.intro (a := chkPast _ _ _ _ _ _ _ _) ?_ ?_ | refine ⟨⟨rfl, rfl⟩, ?_⟩ | refine And.intro (And.intro rfl rfl) ?_ | refine ⟨True.intro, ?_⟩ | refine ⟨_, ⟨_, rfl, ?_, rfl, rfl, rfl⟩, ?_⟩ | refine ⟨_, rfl, ?_, rfl, ?_⟩ | refine ⟨_, (fun _ => rfl), rfl, ?_⟩ | refine ⟨(fun _ => rfl), ?_⟩ | refine ⟨rfl, ?_⟩ | refine Opt.a ?_ | fail)
  · unfold I64
    dsimp only
    omega
  · unfold I64
    dsimp only
    omega
  have ek : k = l.length - 1 - i := by omega
  have e1 : d[k] = l.getD k 0 := by
    have h := swp_at l i k (by omega) (by omega)
    rw [← hd, List.getElem?_eq_getElem hkl] at h
    exact Option.some.inj h
  have e2 : d[i] = l.getD i 0 := by
    have h := swp_at l i i (by omega) (by omega)
    rw [← hd, List.getElem?_eq_getElem hil] at h
    exact Option.some.inj h
  refine ⟨(i + 1, (k : Int) - 1, (d.set i d[k]).set k d[i]), ?_, ⟨?_, ?_, ?_⟩, ?_⟩
  rotate_left
  · show (k : Int) - 1 = (l.length : Int) - 1 - ((i + 1 : Nat) : Int)
    omega
  · show (d.set i d[k]).set k d[i] = swp l (i + 1)
    rw [e1, e2, hd, ek]
    exact swp_next l i (by omega)
  · show 2 * (i + 1) ≤ l.length + 1
    omega
  · show l.length + 1 - (i + 1) < l.length + 1 - i
    omega
  (refine wk_auto ?_; refine Sel4.mk rfl rfl ?_ ?_ <;> (repeat' (first | exact True.intro | exact rfl | exact Or.inl rfl | exact Or.inr rfl | refine And.intro ?_ ?_ | fail)))
  all_goals try (show Row.row 1 _ = Row.row 1 _)
  simp [List.map_set]
end Gv
namespace Gv
variable [Glob] [Laid]
theorem one_ca : callable Tryz.prog 161 = true := by kernel_rfl
def one_S : Spec := fun args K => ∃ (c : Cmd) (s : Bs), args = [cmdV c, .str s] ∧ (checkCmd c = 0 ∧ s.length ≤ 900000) ∧ K (.tup [.str (oneC c s).1, .bool (oneC c s).2])
noncomputable def one_lib : List (Nat × Spec) := [(104, containsS_S), (229, replaceS_S), (105, splitS_S)]
noncomputable def one_fns : List (Nat × FnI) := []
noncomputable def one_prims : List (Nat × PSpec) := [(230, revB_P)]
theorem one_E : EnvOK ⟨Tryz.prog, tys, one_lib, one_fns, one_prims, []⟩ := env_ok mixed0 tys0 (.cons containsS_ca containsS_ok (.cons replaceS_ca replaceS_ok (.cons splitS_ca splitS_ok .nil))) .nil (.cons revB_prim .nil) rfl
set_option maxHeartbeats 4000000 in
theorem one_ok : Pure Tryz.prog 161 one_S := by
  refine pure_by one_E 6 (fi := {fn := Tryz.f161, hooks := [], draws := [(7, [0, 0, 2, 6, 0, 16, 48, 127, 255, 511])]}) ⟨Tryz.func161, by kernel_rfl, by kernel_rfl⟩ ?_
  rintro _ K ⟨c, s, rfl, ⟨hc, hs⟩, hK⟩
  replace hK : ∀ r, r = .tup [.str (oneC c s).1, .bool (oneC c s).2] → K r := fun r h => h ▸ hK
  have hsw := @splitK_sz [32] (Lib.count s [32]) s
  have hsn : 0 < (Lib.split s [32]).length := List.length_pos_iff.2 (split_ne s [32])
  have hcn : c.kind = 4 → 1 ≤ c.n := fun h => by
    unfold checkCmd useN at hc
    grind
  have hcw := @word2 c hc
  have hsl : (Lib.split s [32]).length ≤ 1000000 := by
    rw [split_len _ _ (by decide), Lib.count_one]
    have := List.count_le_length (a := (32 : UInt8)) (l := s)
    omega
  have hone : ∀ r : Bs × Bool, oneC c s = r → K (.tup [.str r.1, .bool r.2]) := fun r h => hK _ (by rw [h])
  unfold oneC at hone
  repeat' (first | exact True.intro | refine ⟨_, LeL.refl _, ?_⟩ | refine ⟨_, _, _, LeL.refl _, ?_⟩ | (refine fun (b : Bool) hb => ?_; cases b <;> (first | exact absurd hb (by decide) | exact Bool.noConfusion (show true = false from hb) | exact Bool.noConfusion (show false = true from hb) | skip)) | (refine fun (hl : _ ≤ MAXL) => ?_) | refine And.intro (a := I64 _) ?_ ?_ | refine And.intro (a := _ ≤ 140737488355328) ?_ ?_ | refine ⟨_, ⟨rfl, rfl⟩, ?_⟩ | refine ⟨_, And.intro (a := I64 _) ?_ ⟨rfl, rfl⟩, ?_⟩ | refine ⟨_, _, ⟨rfl, rfl⟩, ?_⟩ | refine ⟨_, (fun _ => ⟨rfl, rfl⟩), ?_⟩ | refine And.intro (a := chkPend _ _ _ _ _ _) ?_ ?_ | refine And.intro (a := chkPast _ _ _ _ _ _ _ _) ?_ ?_ | refine ⟨⟨rfl, rfl⟩, ?_⟩ | refine And.intro (And.intro rfl rfl) ?_ | refine ⟨True.intro, ?_⟩ | refine ⟨_, ⟨_, rfl, ?_, rfl, rfl, rfl⟩, ?_⟩ | refine ⟨_, rfl, ?_, rfl, ?_⟩ | refine ⟨_, (fun _ => rfl), rfl, ?_⟩ | refine ⟨(fun _ => rfl), ?_⟩ | refine ⟨rfl, ?_⟩ | refine Opt.b ?_ | fail)
  · -- turned
    omega
  · refine ⟨s, rfl, rfl, by omega, ?_⟩
    repeat' (first | exact True.intro | refine ⟨_, LeL.refl _, ?_⟩ | refine ⟨_, _, _, LeL.refl _, ?_⟩ | (refine fun (b : Bool) hb => ?_; cases b <;> (first | exact absurd hb (by decide) | exact Bool.noConfusion (show true = false from hb) | exact Bool.noConfusion (show false = true from hb) | skip)) | (refine fun (hl : _ ≤ MAXL) => ?_) | refine And.intro (a := I64 _) ?_ ?_ | refine And.intro (a := _ ≤ 140737488355328) ?_ ?_ | refine ⟨_, ⟨rfl, rfl⟩, ?_⟩ | refine ⟨_, And.intro (a := I64 _) ?_ ⟨rfl, rfl⟩, ?_⟩ | refine ⟨_, _, ⟨rfl, rfl⟩, ?_⟩ | refine ⟨_, (fun _ => ⟨rfl, rfl⟩), ?_⟩ | refine And.intro (a := chkPend _ _ _ _ _ _) ?_ ?_ | refine And.intro (a := chkPast _ _ _ _ _ _ _ _) ?_ ?_ | refine ⟨⟨rfl, rfl⟩, ?_⟩ | refine And.intro (And.intro rfl rfl) ?_ | refine ⟨True.intro, ?_⟩ | refine ⟨_, ⟨_, rfl, ?_, rfl, rfl, rfl⟩, ?_⟩ | refine ⟨_, rfl, ?_, rfl, ?_⟩ | refine ⟨_, (fun _ => rfl), rfl, ?_⟩ | refine ⟨(fun _ => rfl), ?_⟩ | refine ⟨rfl, ?_⟩ | refine Opt.a ?_ | fail)
    refine ⟨s.reverse, rfl, rfl, ?_⟩
    repeat' (first | exact True.intro | refine ⟨_, LeL.refl _, ?_⟩ | refine ⟨_, _, _, LeL.refl _, ?_⟩ | (refine fun (b : Bool) hb => ?_; cases b <;> (first | exact absurd hb (by decide) | exact Bool.noConfusion (show true = false from hb) | exact Bool.noConfusion (show false = true from hb) | skip)) | (refine fun (hl : _ ≤ MAXL) => ?_) | refine And.intro (a := I64 _) ?_ ?_ | refine And.intro (a := _ ≤ 140737488355328) ?_ ?_ | refine ⟨_, ⟨rfl, rfl⟩, ?_⟩ | refine ⟨_, And.intro (a := I64 _) ?_ ⟨rfl, rfl⟩, ?_⟩ | refine ⟨_, _, ⟨rfl, rfl⟩, ?_⟩ | refine ⟨_, (fun _ => ⟨rfl, rfl⟩), ?_⟩ | refine And.intro (a := chkPend _ _ _ _ _ _) ?_ ?_ | refine And.intro (a := chkPast _ _ _ _ _ _ _ _) ?_ ?_ | refine ⟨⟨rfl, rfl⟩, ?_⟩ | refine And.intro (And.intro rfl rfl) ?_ | refine ⟨True.intro, ?_⟩ | refine ⟨_, ⟨_, rfl, ?_, rfl, rfl, rfl⟩, ?_⟩ | refine ⟨_, rfl, ?_, rfl, ?_⟩ | refine ⟨_, (fun _ => rfl), rfl, ?_⟩ | refine ⟨(fun _ => rfl), ?_⟩ | refine ⟨rfl, ?_⟩ | refine Opt.a ?_ | fail)
    have h1 : ¬ c.kind = 1 := of_decide_eq_false (by assumption)
    have h2 : ¬ c.kind = 2 := of_decide_eq_false (by assumption)
    have h3 : ¬ c.kind = 3 := of_decide_eq_false (by assumption)
    have h4 : ¬ c.kind = 4 := of_decide_eq_false (by assumption)
    rw [if_neg h1, if_neg h2, if_neg h3, if_neg h4] at hone
    exact hone _ rfl
  · -- a field
    have h4 : c.kind = 4 := of_decide_eq_true (by assumption)
    have := hcn h4
    refine ⟨s, [32], rfl, ⟨by omega, by decide⟩, ?_⟩
    rw [if_neg (by omega), if_neg (by omega), if_neg (by omega), if_pos h4] at hone
    repeat' (first | exact True.intro | refine ⟨_, LeL.refl _, ?_⟩ | refine ⟨_, _, _, LeL.refl _, ?_⟩ | (refine fun (b : Bool) hb => ?_; cases b <;> (first | exact absurd hb (by decide) | exact Bool.noConfusion (show true = false from hb) | exact Bool.noConfusion (show false = true from hb) | skip)) | (refine fun (hl : _ ≤ MAXL) => ?_) | refine And.intro (a := I64 _) ?_ ?_ | refine And.intro (a := _ ≤ 140737488355328) ?_ ?_ | refine ⟨_, ⟨rfl, rfl⟩, ?_⟩ | refine ⟨_, And.intro (a := I64 _) ?_ ⟨rfl, rfl⟩, ?_⟩ | refine ⟨_, _, ⟨rfl, rfl⟩, ?_⟩ | refine ⟨_, (fun _ => ⟨rfl, rfl⟩), ?_⟩ | refine And.intro (a := chkPend _ _ _ _ _ _) ?_ ?_ | refine And.intro (a := chkPast _ _ _ _ _ _ _ _) ?_ ?_ | refine ⟨⟨rfl, rfl⟩, ?_⟩ | refine And.intro (And.intro rfl rfl) ?_ | refine ⟨True.intro, ?_⟩ | refine ⟨_, ⟨_, rfl, ?_, rfl, rfl, rfl⟩, ?_⟩ | refine ⟨_, rfl, ?_, rfl, ?_⟩ | refine ⟨_, (fun _ => rfl), rfl, ?_⟩ | refine ⟨(fun _ => rfl), ?_⟩ | refine ⟨rfl, ?_⟩ | refine Opt.a ?_ | fail)
    · have hle : ¬ ((Lib.split s [32]).length : Int) < c.n := of_decide_eq_false (by assumption)
      (first | omega | (unfold I64; omega) | (simp only [List.length_append, List.length_map, List.length_cons, List.length_nil, Nat.mul_one, Int.ofNat_eq_natCast] at *; omega) | (dsimp only at *; omega) | (unfold I64; dsimp only at *; omega) | (unfold I64; grind) | grind)
    · have hle : ¬ ((Lib.split s [32]).length : Int) < c.n := of_decide_eq_false (by assumption)
      have hlt : (c.n - 1).toNat < (Lib.split s [32]).length := by omega
      refine ⟨(c.n - 1).toNat, by omega, hlt, rfl, ?_⟩
      repeat' (first | exact True.intro | refine ⟨_, LeL.refl _, ?_⟩ | refine ⟨_, _, _, LeL.refl _, ?_⟩ | (refine fun (b : Bool) hb => ?_; cases b <;> (first | exact absurd hb (by decide) | exact Bool.noConfusion (show true = false from hb) | exact Bool.noConfusion (show false = true from hb) | skip)) | (refine fun (hl : _ ≤ MAXL) => ?_) | refine And.intro (a := I64 _) ?_ ?_ | refine And.intro (a := _ ≤ 140737488355328) ?_ ?_ | refine ⟨_, ⟨rfl, rfl⟩, ?_⟩ | refine ⟨_, And.intro (a := I64 _) ?_ ⟨rfl, rfl⟩, ?_⟩ | refine ⟨_, _, ⟨rfl, rfl⟩, ?_⟩ | refine ⟨_, (fun _ => ⟨rfl, rfl⟩), ?_⟩ | refine And.intro (a := chkPend _ _ _ _ _ _) ?_ ?_ | refine And.intro (a := chkPast _ _ _ _ _ _ _ _) ?_ ?_ | refine ⟨⟨rfl, rfl⟩, ?_⟩ | refine And.intro (And.intro rfl rfl) ?_ | refine ⟨True.intro, ?_⟩ | refine ⟨_, ⟨_, rfl, ?_, rfl, rfl, rfl⟩, ?_⟩ | refine ⟨_, rfl, ?_, rfl, ?_⟩ | refine ⟨_, (fun _ => rfl), rfl, ?_⟩ | refine ⟨(fun _ => rfl), ?_⟩ | refine ⟨rfl, ?_⟩ | refine Opt.a ?_ | fail)
      rw [if_neg hle] at hone
      have e : (Lib.split s [32]).getD (c.n - 1).toNat [] = (Lib.split s [32])[(c.n - 1).toNat] := by rw [List.getD_eq_getElem?_getD, List.getElem?_eq_getElem hlt]; rfl
      rw [e] at hone
      exact hone _ rfl
    · have hle : ((Lib.split s [32]).length : Int) < c.n := of_decide_eq_true (by assumption)
      rw [if_pos hle] at hone
      exact hone _ rfl
  · -- a byte for another
    have h3 : c.kind = 3 := of_decide_eq_true (by assumption)
    obtain ⟨x, y, hw⟩ := hcw h3
    rw [if_neg (by omega), if_neg (by omega), if_pos h3] at hone
    obtain ⟨ck, cw, cn⟩ := c
    dsimp only at hw
    subst hw
    refine ⟨_, ⟨0, 1, rfl, rfl, by decide, by show 1 ≤ 2; decide, rfl, rfl⟩, ?_⟩
    repeat' (first | exact True.intro | refine ⟨_, LeL.refl _, ?_⟩ | refine ⟨_, _, _, LeL.refl _, ?_⟩ | (refine fun (b : Bool) hb => ?_; cases b <;> (first | exact absurd hb (by decide) | exact Bool.noConfusion (show true = false from hb) | exact Bool.noConfusion (show false = true from hb) | skip)) | (refine fun (hl : _ ≤ MAXL) => ?_) | refine And.intro (a := I64 _) ?_ ?_ | refine And.intro (a := _ ≤ 140737488355328) ?_ ?_ | refine ⟨_, ⟨rfl, rfl⟩, ?_⟩ | refine ⟨_, And.intro (a := I64 _) ?_ ⟨rfl, rfl⟩, ?_⟩ | refine ⟨_, _, ⟨rfl, rfl⟩, ?_⟩ | refine ⟨_, (fun _ => ⟨rfl, rfl⟩), ?_⟩ | refine And.intro (a := chkPend _ _ _ _ _ _) ?_ ?_ | refine And.intro (a := chkPast _ _ _ _ _ _ _ _) ?_ ?_ | refine ⟨⟨rfl, rfl⟩, ?_⟩ | refine And.intro (And.intro rfl rfl) ?_ | refine ⟨True.intro, ?_⟩ | refine ⟨_, ⟨_, rfl, ?_, rfl, rfl, rfl⟩, ?_⟩ | refine ⟨_, rfl, ?_, rfl, ?_⟩ | refine ⟨_, (fun _ => rfl), rfl, ?_⟩ | refine ⟨(fun _ => rfl), ?_⟩ | refine ⟨rfl, ?_⟩ | refine Opt.a ?_ | fail)
    conv => whnf
    refine ⟨_, ⟨1, 2, rfl, rfl, by decide, by show 2 ≤ 2; decide, rfl, rfl⟩, ?_⟩
    repeat' (first | exact True.intro | refine ⟨_, LeL.refl _, ?_⟩ | refine ⟨_, _, _, LeL.refl _, ?_⟩ | (refine fun (b : Bool) hb => ?_; cases b <;> (first | exact absurd hb (by decide) | exact Bool.noConfusion (show true = false from hb) | exact Bool.noConfusion (show false = true from hb) | skip)) | (refine fun (hl : _ ≤ MAXL) => ?_) | refine And.intro (a := I64 _) ?_ ?_ | refine And.intro (a := _ ≤ 140737488355328) ?_ ?_ | refine ⟨_, ⟨rfl, rfl⟩, ?_⟩ | refine ⟨_, And.intro (a := I64 _) ?_ ⟨rfl, rfl⟩, ?_⟩ | refine ⟨_, _, ⟨rfl, rfl⟩, ?_⟩ | refine ⟨_, (fun _ => ⟨rfl, rfl⟩), ?_⟩ | refine And.intro (a := chkPend _ _ _ _ _ _) ?_ ?_ | refine And.intro (a := chkPast _ _ _ _ _ _ _ _) ?_ ?_ | refine ⟨⟨rfl, rfl⟩, ?_⟩ | refine And.intro (And.intro rfl rfl) ?_ | refine ⟨True.intro, ?_⟩ | refine ⟨_, ⟨_, rfl, ?_, rfl, rfl, rfl⟩, ?_⟩ | refine ⟨_, rfl, ?_, rfl, ?_⟩ | refine ⟨_, (fun _ => rfl), rfl, ?_⟩ | refine ⟨(fun _ => rfl), ?_⟩ | refine ⟨rfl, ?_⟩ | refine Opt.a ?_ | fail)
    have hr := replace_one x y s
    have hl : (Lib.replaceAll s [x] [y]).length = s.length := by rw [hr]; simp
    have hcs : Lib.count s [x] ≤ s.length := by rw [Lib.count_one]; exact List.count_le_length
    apply Exists.intro
    apply And.intro
    · refine ⟨s, [x], [y], rfl, ⟨by omega, by show 1 ≤ 1; decide, by show s.length + Lib.count s [x] * 1 ≤ _; omega, by rw [hl]; unfold MAXL; omega⟩, ?_⟩
      exact ⟨rfl, rfl⟩
    repeat' (first | exact True.intro | refine ⟨_, LeL.refl _, ?_⟩ | refine ⟨_, _, _, LeL.refl _, ?_⟩ | (refine fun (b : Bool) hb => ?_; cases b <;> (first | exact absurd hb (by decide) | exact Bool.noConfusion (show true = false from hb) | exact Bool.noConfusion (show false = true from hb) | skip)) | (refine fun (hl : _ ≤ MAXL) => ?_) | refine And.intro (a := I64 _) ?_ ?_ | refine And.intro (a := _ ≤ 140737488355328) ?_ ?_ | refine ⟨_, ⟨rfl, rfl⟩, ?_⟩ | refine ⟨_, And.intro (a := I64 _) ?_ ⟨rfl, rfl⟩, ?_⟩ | refine ⟨_, _, ⟨rfl, rfl⟩, ?_⟩ | refine ⟨_, (fun _ => ⟨rfl, rfl⟩), ?_⟩ | refine And.intro (a := chkPend _ _ _ _ _ _) ?_ ?_ | refine And.intro (a := chkPast _ _ _ _ _ _ _ _) ?_ ?_ | refine ⟨⟨rfl, rfl⟩, ?_⟩ | refine And.intro (And.intro rfl rfl) ?_ | refine ⟨True.intro, ?_⟩ | refine ⟨_, ⟨_, rfl, ?_, rfl, rfl, rfl⟩, ?_⟩ | refine ⟨_, rfl, ?_, rfl, ?_⟩ | refine ⟨_, (fun _ => rfl), rfl, ?_⟩ | refine ⟨(fun _ => rfl), ?_⟩ | refine ⟨rfl, ?_⟩ | refine Opt.a ?_ | fail)
    exact hone _ rfl
  · have h : c.kind = 2 := of_decide_eq_true (by assumption)
    refine ⟨s, c.word, rfl, by omega, ?_⟩
    repeat' (first | exact True.intro | refine ⟨_, LeL.refl _, ?_⟩ | refine ⟨_, _, _, LeL.refl _, ?_⟩ | (refine fun (b : Bool) hb => ?_; cases b <;> (first | exact absurd hb (by decide) | exact Bool.noConfusion (show true = false from hb) | exact Bool.noConfusion (show false = true from hb) | skip)) | (refine fun (hl : _ ≤ MAXL) => ?_) | refine And.intro (a := I64 _) ?_ ?_ | refine And.intro (a := _ ≤ 140737488355328) ?_ ?_ | refine ⟨_, ⟨rfl, rfl⟩, ?_⟩ | refine ⟨_, And.intro (a := I64 _) ?_ ⟨rfl, rfl⟩, ?_⟩ | refine ⟨_, _, ⟨rfl, rfl⟩, ?_⟩ | refine ⟨_, (fun _ => ⟨rfl, rfl⟩), ?_⟩ | refine And.intro (a := chkPend _ _ _ _ _ _) ?_ ?_ | refine And.intro (a := chkPast _ _ _ _ _ _ _ _) ?_ ?_ | refine ⟨⟨rfl, rfl⟩, ?_⟩ | refine And.intro (And.intro rfl rfl) ?_ | refine ⟨True.intro, ?_⟩ | refine ⟨_, ⟨_, rfl, ?_, rfl, rfl, rfl⟩, ?_⟩ | refine ⟨_, rfl, ?_, rfl, ?_⟩ | refine ⟨_, (fun _ => rfl), rfl, ?_⟩ | refine ⟨(fun _ => rfl), ?_⟩ | refine ⟨rfl, ?_⟩ | refine Opt.a ?_ | fail)
    rw [if_neg (by omega), if_pos h] at hone
    exact hone _ rfl
  · have h : c.kind = 1 := of_decide_eq_true (by assumption)
    refine ⟨s, c.word, rfl, by omega, ?_⟩
    repeat' (first | exact True.intro | refine ⟨_, LeL.refl _, ?_⟩ | refine ⟨_, _, _, LeL.refl _, ?_⟩ | (refine fun (b : Bool) hb => ?_; cases b <;> (first | exact absurd hb (by decide) | exact Bool.noConfusion (show true = false from hb) | exact Bool.noConfusion (show false = true from hb) | skip)) | (refine fun (hl : _ ≤ MAXL) => ?_) | refine And.intro (a := I64 _) ?_ ?_ | refine And.intro (a := _ ≤ 140737488355328) ?_ ?_ | refine ⟨_, ⟨rfl, rfl⟩, ?_⟩ | refine ⟨_, And.intro (a := I64 _) ?_ ⟨rfl, rfl⟩, ?_⟩ | refine ⟨_, _, ⟨rfl, rfl⟩, ?_⟩ | refine ⟨_, (fun _ => ⟨rfl, rfl⟩), ?_⟩ | refine And.intro (a := chkPend _ _ _ _ _ _) ?_ ?_ | refine And.intro (a := chkPast _ _ _ _ _ _ _ _) ?_ ?_ | refine ⟨⟨rfl, rfl⟩, ?_⟩ | refine And.intro (And.intro rfl rfl) ?_ | refine ⟨True.intro, ?_⟩ | refine ⟨_, ⟨_, rfl, ?_, rfl, rfl, rfl⟩, ?_⟩ | refine ⟨_, rfl, ?_, rfl, ?_⟩ | refine ⟨_, (fun _ => rfl), rfl, ?_⟩ | refine ⟨(fun _ => rfl), ?_⟩ | refine ⟨rfl, ?_⟩ | refine Opt.a ?_ | fail)
    rw [if_pos h] at hone
    exact hone _ rfl
end Gv
namespace Gv
variable [Glob] [Laid] [Nums]
theorem bel_more (w : World) (k : Nat) (os : Array Obj) : Bel [] w (Go.Sort.grow (w.drewN k) os) :=
  ⟨rfl, rfl, rfl, by rw [Go.Sort.size_grow]; exact Nat.le_add_right _ _, fun i hi _ => Go.Sort.heap_grow_old (w.drewN k) os hi⟩
theorem itoa_ca : callable Tryz.prog 107 = true := by kernel_rfl
def itoa_S : Spec := fun args K => ∃ (n : Int), args = [.int .i64 n] ∧ I64 n ∧ K (.str (Lib.itoa n))
set_option maxHeartbeats 4000000 in
theorem itoa_ok : Pure Tryz.prog 107 itoa_S := by
  intro w m args us K hm hg hv hT
  obtain ⟨n, rfl, h1, hK⟩ := hT
  obtain ⟨a, rfl, ha⟩ := args1 hv.1 hv.2
  cases ha
  refine (Tryz.strconv_Itoa n h1.1 h1.2 w (Nums.pow10 w (fun b o e => hm b o (hg b o e)))).mono fun e w' ⟨he, k, os, hw⟩ => ?_
  subst hw
  have := itoa_len n h1
  exact ⟨_, _, he, bel_more w k os, hK, .str (by unfold MAXL; omega)⟩
end Gv
namespace Gv
variable [Glob] [Laid]
theorem sortS_ca : callable Tryz.prog 159 = true := by kernel_rfl
def sortS_P : PSpec := fun args rows K => (∃ (l : List Bs), args = [.own 0] ∧ rows = [.row 1 (l.map strV)] ∧ l.length < 4611686018427387904 ∧ K (.tup []) [.row 1 ((sortB l).map strV)]) ∨ (args = [.nil] ∧ rows = [] ∧ K (.tup []) [])
set_option maxHeartbeats 4000000 in
theorem sortS_prim : PrimOK Tryz.prog 159 sortS_P := by
  intro w0 m0 args rows k R m q w us C hv hT
  rcases hT with ⟨l, rfl, rfl, hl, hK⟩ | ⟨rfl, rfl, hK⟩
  rotate_left
  · obtain ⟨u, rfl, hu⟩ := vrl_one hv
    refine ⟨sortS_ca, ?_⟩
    cases hu
    refine (Tryz.slices_Sort_string_none none 0 w).mono fun e w' ⟨he, hw⟩ => ?_
    subst hw
    exact ⟨_, he, _, _, _, _, _, hK, C, Mem.Le.refl m, Loc.Le.refl q, .tup (us := []) rfl fun i v u h => by simp at h⟩
  obtain ⟨u, rfl, hu⟩ := vrl_one hv
  refine ⟨sortS_ca, ?_⟩
  rcases own_strs C hu with ⟨rfl, rfl⟩ | ⟨b, cap, arr, T, fz, rfl, h1, h2, h3, h4, h5, h6, h7, h8⟩
  · refine (Tryz.slices_Sort_string_none none 0 w).mono fun e w' ⟨he, hw⟩ => ?_
    subst hw
    have e : sortB ([] : List Bs) = [] := by simp [sortB]
    rw [e] at hK
    exact ⟨_, he, _, _, _, _, _, hK, C, Mem.Le.refl m, Loc.Le.refl q, .tup (us := []) rfl fun i v u h => by simp at h⟩
  · have hblk := C.sit.lt h4
    refine (Tryz.slices_Sort_string b 0 cap l w h7 hblk hl).mono fun e w' ⟨he, n, os, hw⟩ => ?_
    obtain ⟨g1, g2⟩ := sorted_world (C.sit.own _ _ h4).2.1 hw
    have C2 := C.strs_put (l' := sortB l) h3 h4 h5 h6 h2 h1 (sortB_len l) (fun x hx => h8 x ((sortB_perm l).mem_iff.1 hx)) g1 g2
    exact ⟨_, he, _, _, _, _, _, hK, C2, Mem.Le.refl m, Loc.Le.refl q, .tup (us := []) rfl fun i v u h => by simp at h⟩
end Gv
namespace Gv
variable [Glob] [Laid]
theorem compactS_ca : callable Tryz.prog 160 = true := by kernel_rfl
def compactS_P : PSpec := fun args rows K => (∃ (l : List Bs), args = [.own 0] ∧ rows = [.row 1 (l.map strV)] ∧ K (.own 1) [.dead, .row 1 ((onceB l).map strV)]) ∨ (args = [.nil] ∧ rows = [] ∧ K .nil [])
set_option maxHeartbeats 4000000 in
theorem compactS_prim : PrimOK Tryz.prog 160 compactS_P := by
  intro w0 m0 args rows k R m q w us C hv hT
  rcases hT with ⟨l, rfl, rfl, hK⟩ | ⟨rfl, rfl, hK⟩
  rotate_left
  · obtain ⟨u, rfl, hu⟩ := vrl_one hv
    refine ⟨compactS_ca, ?_⟩
    cases hu
    refine (Tryz.slices_Compact_string_empty none 0 w).mono fun e w' ⟨he, hw⟩ => ?_
    subst hw
    exact ⟨_, he, _, _, _, _, _, hK, C, Mem.Le.refl m, Loc.Le.refl q, .nil⟩
  obtain ⟨u, rfl, hu⟩ := vrl_one hv
  refine ⟨compactS_ca, ?_⟩
  rcases own_strs C hu with ⟨rfl, rfl⟩ | ⟨b, cap, arr, T, fz, rfl, h1, h2, h3, h4, h5, h6, h7, h8⟩
  · refine (Tryz.slices_Compact_string_empty none 0 w).mono fun e w' ⟨he, hw⟩ => ?_
    subst hw
    have C1 := C.kill (r := 0) rfl
    have C2 := C1.row0 1
    refine ⟨_, he, _, _, _, _, _, hK, C2, Mem.Le.refl m, C1.le_add _, ?_⟩
    exact VR.own (add_self q 1 (none, 0, 0, 1))
  · have hw0 := (C.sit.own _ _ h4).2.1
    refine (Tryz.slices_Compact_string b 0 cap l w h7 (by unfold MAXL at h2; omega) h1).mono fun e w' ⟨he, n, hw⟩ => ?_
    obtain ⟨g1, g2⟩ := sorted_world (w' := w') (n := n) (d := (Lib.compact l ++ List.replicate (l.length - (Lib.compact l).length) ([] : Bs)).toArray) (os := #[]) hw0 (by rw [hw, Go.Sort.grow_empty])
    have S' := C.sit.write h4 g1 g2
    have hlen : (Lib.compact l ++ List.replicate (l.length - (Lib.compact l).length) ([] : Bs)).length ≤ cap := by
      have := onceB_len l
      unfold onceB at this
      simp
      omega
    have he' : ElsR m 1 ((onceB l).map strV) (Go.Sort.putCells Go.Proofs.encStr 0 (Lib.compact l ++ List.replicate (l.length - (Lib.compact l).length) ([] : Bs)).toArray arr) := fun i x hi => by
      have hx := els_put (m := m) (l := l) (l' := Lib.compact l ++ List.replicate (l.length - (Lib.compact l).length) ([] : Bs)) h5 hlen (fun x hx => by
        rcases List.mem_append.1 hx with hx | hx
        · exact h8 x (onceB_sub l x hx)
        · rw [(List.mem_replicate.1 hx).2]; exact Nat.zero_le _)
      refine hx i x ?_
      rw [List.map_append, List.getElem?_append_left (show i < ((Lib.compact l).map strV).length from (List.getElem?_eq_some_iff.1 hi).1)]
      exact hi
    have e0 : ([Row.row 1 (l.map strV)].set 0 Row.dead ++ [.row 1 ((onceB l).map strV)]) = [.dead, .row 1 ((onceB l).map strV)] := rfl
    have C2 := C.move (r := 0) (y := .row 1 ((onceB l).map strV)) (n' := (onceB l).length) (c' := cap) (k' := 1) rfl rfl h3 S' ⟨some b, cap, by simp [add_self], by simp; have := onceB_len l; omega, h2, (fun h => by cases h), fun b' e => by
      cases e
      exact ⟨_, T, fz, by simp [Mem.put], by rw [putCells_size]; exact h5, he', by rw [putCells_size]; exact h6⟩⟩
    refine ⟨_, he, _, _, _, _, _, hK, C2, Mem.Le.refl m, C.le_add _, ?_⟩
    exact VR.own (add_self q 1 (some b, (onceB l).length, cap, 1))
end Gv
namespace Gv
variable [Glob] [Laid] [Nums]
theorem linesC_ca : callable Tryz.prog 98 = true := by kernel_rfl
def linesC_S : Spec := fun args K => ∃ (c : Cmd) (l : List Bs), args = [cmdV c, .sl strV l] ∧ (checkCmd c = 0 ∧ l.length ≤ 900000 ∧ ∀ s ∈ l, s.length ≤ 900000) ∧ K (.sl strV (linesC c l))
noncomputable def linesC_lib : List (Nat × Spec) := [(161, one_S), (107, itoa_S)]
noncomputable def linesC_fns : List (Nat × FnI) := [(113, {fn := Tryz.f113, hooks := [], draws := []})]
noncomputable def linesC_prims : List (Nat × PSpec) := [(159, sortS_P), (160, compactS_P)]
theorem linesC_E : EnvOK ⟨Tryz.prog, tys, linesC_lib, linesC_fns, linesC_prims, []⟩ := env_ok mixed0 tys0 (.cons one_ca one_ok (.cons itoa_ca itoa_ok .nil)) (.cons (by kernel_rfl) ⟨Tryz.func113, by kernel_rfl, by kernel_rfl⟩ .nil) (.cons sortS_prim (.cons compactS_prim .nil)) rfl
set_option maxHeartbeats 4000000 in
theorem linesC_ok : Pure Tryz.prog 98 linesC_S := by
  refine pure_by linesC_E 6 (fi := {fn := Tryz.f98, hooks := [], draws := []}) ⟨Tryz.func98, by kernel_rfl, by kernel_rfl⟩ ?_
  rintro _ K ⟨c, l, rfl, ⟨hc, hl, hs⟩, hK⟩
  replace hK : ∀ r, r = .sl strV (linesC c l) → K r := fun r h => h ▸ hK
  have hcn : c.kind = 9 ∨ c.kind = 10 → 1 ≤ c.n ∧ c.n ≤ 1000 := fun h => by
    unfold checkCmd useN at hc
    grind
  have hone : ∀ r : List Bs, linesC c l = r → K (.sl strV r) := fun r h => hK _ (by rw [h])
  unfold linesC at hone
  repeat' (first | exact True.intro | refine ⟨_, LeL.refl _, ?_⟩ | refine ⟨_, _, _, LeL.refl _, ?_⟩ | (refine fun (b : Bool) hb => ?_; cases b <;> (first | exact absurd hb (by decide) | exact Bool.noConfusion (show true = false from hb) | exact Bool.noConfusion (show false = true from hb) | skip)) | (refine fun (hl : _ ≤ MAXL) => ?_) | refine And.intro (a := I64 _) ?_ ?_ | refine And.intro (a := _ ≤ 140737488355328) ?_ ?_ | refine ⟨_, ⟨rfl, rfl⟩, ?_⟩ | refine ⟨_, And.intro (a := I64 _) ?_ ⟨rfl, rfl⟩, ?_⟩ | refine ⟨_, _, ⟨rfl, rfl⟩, ?_⟩ | refine ⟨_, (fun _ => ⟨rfl, rfl⟩), ?_⟩ | refine And.intro (a := chkPend _ _ _ _ _ _) ?_ ?_ | refine And.intro (a := chkPast _ _ _ _ _ _ _ _) ?_ ?_ | refine ⟨⟨rfl, rfl⟩, ?_⟩ | refine And.intro (And.intro rfl rfl) ?_ | refine ⟨True.intro, ?_⟩ | refine ⟨_, ⟨_, rfl, ?_, rfl, rfl, rfl⟩, ?_⟩ | refine ⟨_, rfl, ?_, rfl, ?_⟩ | refine ⟨_, (fun _ => rfl), rfl, ?_⟩ | refine ⟨(fun _ => rfl), ?_⟩ | refine ⟨rfl, ?_⟩ | refine Opt.a ?_ | fail)
  · -- one line at a time
    have h6 : ¬ c.kind = 6 := of_decide_eq_false (by assumption)
    have h7 : ¬ c.kind = 7 := of_decide_eq_false (by assumption)
    have h8 : ¬ c.kind = 8 := of_decide_eq_false (by assumption)
    have h9 : ¬ c.kind = 9 := of_decide_eq_false (by assumption)
    have h10 : ¬ c.kind = 10 := of_decide_eq_false (by assumption)
    rw [if_neg h6, if_neg h7, if_neg h8, if_neg h9, if_neg h10] at hone
    conv => whnf
    refine loop_live [2, 51, 52] (σ := Nat × List Bs) (fun s => [(53, .int .i64 s.1), (5, .own 1)]) (fun s => [.box (cmdV c).cells, .row 1 (s.2.map strV)]) (fun s => s.2 = (l.take s.1).filterMap (outC c) ∧ s.1 ≤ l.length) (fun s => l.length - s.1) (0, []) ?_
    conv => whnf
    refine ⟨(by (refine wk_auto ?_; refine Sel4.mk rfl rfl ?_ ?_ <;> (repeat' (first | exact True.intro | exact rfl | exact Or.inl rfl | exact Or.inr rfl | refine And.intro ?_ ?_ | fail)))), ⟨by simp, Nat.zero_le _⟩, fun s hs => ?_⟩
    obtain ⟨i, out⟩ := s
    obtain ⟨ho, hi⟩ := hs
    dsimp only at ho hi
    have hol : out.length ≤ 900000 := by
      rw [ho]
      have := List.length_filterMap_le (outC c) (l.take i)
      simp only [List.length_take] at this
      omega
    repeat' (first | exact True.intro | refine ⟨_, LeL.refl _, ?_⟩ | refine ⟨_, _, _, LeL.refl _, ?_⟩ | (refine fun (b : Bool) hb => ?_; cases b <;> (first | exact absurd hb (by decide) | exact Bool.noConfusion (show true = false from hb) | exact Bool.noConfusion (show false = true from hb) | skip)) | (refine fun (hl : _ ≤ MAXL) => ?_) | refine And.intro (a := I64 _) ?_ ?_ | refine And.intro (a := _ ≤ 140737488355328) ?_ ?_ | refine ⟨_, ⟨rfl, rfl⟩, ?_⟩ | refine ⟨_, And.intro (a := I64 _) ?_ ⟨rfl, rfl⟩, ?_⟩ | refine ⟨_, _, ⟨rfl, rfl⟩, ?_⟩ | refine ⟨_, (fun _ => ⟨rfl, rfl⟩), ?_⟩ | refine And.intro (a := chkPend _ _ _ _ _ _) ?_ ?_ | refine And.intro (a := chkPast _ _ _ _ _ _ _ _) ?_ ?_ | refine ⟨⟨rfl, rfl⟩, ?_⟩ | refine And.intro (And.intro rfl rfl) ?_ | refine ⟨True.intro, ?_⟩ | refine ⟨_, ⟨_, rfl, ?_, rfl, rfl, rfl⟩, ?_⟩ | refine ⟨_, rfl, ?_, rfl, ?_⟩ | refine ⟨_, (fun _ => rfl), rfl, ?_⟩ | refine ⟨(fun _ => rfl), ?_⟩ | refine ⟨rfl, ?_⟩ | refine Opt.a ?_ | fail)
    · have h : ¬ (i : Int) < (l.length : Int) := of_decide_eq_false (by assumption)
      have e : i = l.length := by omega
      rw [e, List.take_length] at ho
      conv => whnf
      exact hone _ ho.symm
    all_goals have hlt : i < l.length := by grind
    · exact hlt
    refine ⟨c, l[i], rfl, ⟨hc, hs _ (List.getElem_mem hlt)⟩, ?_⟩
    have hnx : (l.take (i + 1)).filterMap (outC c) = out ++ (match oneC c l[i] with | (t, true) => [t] | (_, false) => []) := by
      rw [List.take_succ_eq_append_getElem hlt, List.filterMap_append, ← ho]
      congr 1
      simp only [List.filterMap_cons, List.filterMap_nil]
      unfold outC
      generalize oneC c l[i] = p
      obtain ⟨t, b⟩ := p
      cases b <;> rfl
    obtain ⟨p, hp⟩ : ∃ p, oneC c l[i] = p := ⟨_, rfl⟩
    rw [hp] at hnx ⊢
    obtain ⟨t, b⟩ := p
    cases b
    · repeat' (first | exact True.intro | refine ⟨_, LeL.refl _, ?_⟩ | refine ⟨_, _, _, LeL.refl _, ?_⟩ | (refine fun (b : Bool) hb => ?_; cases b <;> (first | exact absurd hb (by decide) | exact Bool.noConfusion (show true = false from hb) | exact Bool.noConfusion (show false = true from hb) | skip)) | (refine fun (hl : _ ≤ MAXL) => ?_) | refine And.intro (a := I64 _) ?_ ?_ | refine And.intro (a := _ ≤ 140737488355328) ?_ ?_ | refine ⟨_, ⟨rfl, rfl⟩, ?_⟩ | refine ⟨_, And.intro (a := I64 _) ?_ ⟨rfl, rfl⟩, ?_⟩ | refine ⟨_, _, ⟨rfl, rfl⟩, ?_⟩ | refine ⟨_, (fun _ => ⟨rfl, rfl⟩), ?_⟩ | refine And.intro (a := chkPend _ _ _ _ _ _) ?_ ?_ | refine And.intro (a := chkPast _ _ _ _ _ _ _ _) ?_ ?_ | refine ⟨⟨rfl, rfl⟩, ?_⟩ | refine And.intro (And.intro rfl rfl) ?_ | refine ⟨True.intro, ?_⟩ | refine ⟨_, ⟨_, rfl, ?_, rfl, rfl, rfl⟩, ?_⟩ | refine ⟨_, rfl, ?_, rfl, ?_⟩ | refine ⟨_, (fun _ => rfl), rfl, ?_⟩ | refine ⟨(fun _ => rfl), ?_⟩ | refine ⟨rfl, ?_⟩ | refine Opt.a ?_ | fail)
      · (first | omega | (unfold I64; omega) | (simp only [List.length_append, List.length_map, List.length_cons, List.length_nil, Nat.mul_one, Int.ofNat_eq_natCast] at *; omega) | (dsimp only at *; omega) | (unfold I64; dsimp only at *; omega) | (unfold I64; grind) | grind)
      refine ⟨(i + 1, out), (by (refine wk_auto ?_; refine Sel4.mk rfl rfl ?_ ?_ <;> (repeat' (first | exact True.intro | exact rfl | exact Or.inl rfl | exact Or.inr rfl | refine And.intro ?_ ?_ | fail)))), ⟨?_, hlt⟩, ?_⟩
      · show out = _
        rw [hnx]
        simp
      · show l.length - (i + 1) < l.length - i
        omega
    · repeat' (first | exact True.intro | refine ⟨_, LeL.refl _, ?_⟩ | refine ⟨_, _, _, LeL.refl _, ?_⟩ | (refine fun (b : Bool) hb => ?_; cases b <;> (first | exact absurd hb (by decide) | exact Bool.noConfusion (show true = false from hb) | exact Bool.noConfusion (show false = true from hb) | skip)) | (refine fun (hl : _ ≤ MAXL) => ?_) | refine And.intro (a := I64 _) ?_ ?_ | refine And.intro (a := _ ≤ 140737488355328) ?_ ?_ | refine ⟨_, ⟨rfl, rfl⟩, ?_⟩ | refine ⟨_, And.intro (a := I64 _) ?_ ⟨rfl, rfl⟩, ?_⟩ | refine ⟨_, _, ⟨rfl, rfl⟩, ?_⟩ | refine ⟨_, (fun _ => ⟨rfl, rfl⟩), ?_⟩ | refine And.intro (a := chkPend _ _ _ _ _ _) ?_ ?_ | refine And.intro (a := chkPast _ _ _ _ _ _ _ _) ?_ ?_ | refine ⟨⟨rfl, rfl⟩, ?_⟩ | refine And.intro (And.intro rfl rfl) ?_ | refine ⟨True.intro, ?_⟩ | refine ⟨_, ⟨_, rfl, ?_, rfl, rfl, rfl⟩, ?_⟩ | refine ⟨_, rfl, ?_, rfl, ?_⟩ | refine ⟨_, (fun _ => rfl), rfl, ?_⟩ | refine ⟨(fun _ => rfl), ?_⟩ | refine ⟨rfl, ?_⟩ | refine Opt.a ?_ | fail)
      · show ((out.map strV).length + 1) * 16 ≤ 140737488355328
        rw [List.length_map]
        omega
      · (first | omega | (unfold I64; omega) | (simp only [List.length_append, List.length_map, List.length_cons, List.length_nil, Nat.mul_one, Int.ofNat_eq_natCast] at *; omega) | (dsimp only at *; omega) | (unfold I64; dsimp only at *; omega) | (unfold I64; grind) | grind)
      refine ⟨(i + 1, out ++ [t]), ?_, ⟨?_, hlt⟩, ?_⟩
      rotate_left
      · show out ++ [t] = _
        rw [hnx]
      · show l.length - (i + 1) < l.length - i
        omega
      (refine wk_auto ?_; refine Sel4.mk rfl rfl ?_ ?_ <;> (repeat' (first | exact True.intro | exact rfl | exact Or.inl rfl | exact Or.inr rfl | refine And.intro ?_ ?_ | fail)))
      show Row.row 1 _ = Row.row 1 _
      simp
      rfl
  · obtain ⟨h1, h2⟩ := hcn (.inr (of_decide_eq_true (by assumption)))
    (first | omega | (unfold I64; omega) | (simp only [List.length_append, List.length_map, List.length_cons, List.length_nil, Nat.mul_one, Int.ofNat_eq_natCast] at *; omega) | (dsimp only at *; omega) | (unfold I64; dsimp only at *; omega) | (unfold I64; grind) | grind)
  · obtain ⟨h1, h2⟩ := hcn (.inr (of_decide_eq_true (by assumption)))
    have h6 : ¬ c.kind = 6 := of_decide_eq_false (by assumption)
    have h7 : ¬ c.kind = 7 := of_decide_eq_false (by assumption)
    have h8 : ¬ c.kind = 8 := of_decide_eq_false (by assumption)
    have h9 : ¬ c.kind = 9 := of_decide_eq_false (by assumption)
    have h10 : c.kind = 10 := of_decide_eq_true (by assumption)
    rw [if_neg h6, if_neg h7, if_neg h8, if_neg h9, if_pos h10] at hone
    conv => whnf
    refine ⟨l.length - c.n.toNat, by omega, by omega, ?_⟩
    repeat' (first | exact True.intro | refine ⟨_, LeL.refl _, ?_⟩ | refine ⟨_, _, _, LeL.refl _, ?_⟩ | (refine fun (b : Bool) hb => ?_; cases b <;> (first | exact absurd hb (by decide) | exact Bool.noConfusion (show true = false from hb) | exact Bool.noConfusion (show false = true from hb) | skip)) | (refine fun (hl : _ ≤ MAXL) => ?_) | refine And.intro (a := I64 _) ?_ ?_ | refine And.intro (a := _ ≤ 140737488355328) ?_ ?_ | refine ⟨_, ⟨rfl, rfl⟩, ?_⟩ | refine ⟨_, And.intro (a := I64 _) ?_ ⟨rfl, rfl⟩, ?_⟩ | refine ⟨_, _, ⟨rfl, rfl⟩, ?_⟩ | refine ⟨_, (fun _ => ⟨rfl, rfl⟩), ?_⟩ | refine And.intro (a := chkPend _ _ _ _ _ _) ?_ ?_ | refine And.intro (a := chkPast _ _ _ _ _ _ _ _) ?_ ?_ | refine ⟨⟨rfl, rfl⟩, ?_⟩ | refine And.intro (And.intro rfl rfl) ?_ | refine ⟨True.intro, ?_⟩ | refine ⟨_, ⟨_, rfl, ?_, rfl, rfl, rfl⟩, ?_⟩ | refine ⟨_, rfl, ?_, rfl, ?_⟩ | refine ⟨_, (fun _ => rfl), rfl, ?_⟩ | refine ⟨(fun _ => rfl), ?_⟩ | refine ⟨rfl, ?_⟩ | refine Opt.a ?_ | fail)
    · show (0 + ((l.drop (l.length - c.n.toNat)).map strV).length) * 16 ≤ 140737488355328
      rw [List.length_map, List.length_drop]
      omega
    · exact hone _ rfl
    · have h : true = true → l.drop (l.length - c.n.toNat) = [] := by assumption
      refine ⟨_, strV, hone _ (h rfl)⟩
  · obtain ⟨h1, h2⟩ := hcn (.inl (of_decide_eq_true (by assumption)))
    have h6 : ¬ c.kind = 6 := of_decide_eq_false (by assumption)
    have h7 : ¬ c.kind = 7 := of_decide_eq_false (by assumption)
    have h8 : ¬ c.kind = 8 := of_decide_eq_false (by assumption)
    have h9 : c.kind = 9 := of_decide_eq_true (by assumption)
    rw [if_neg h6, if_neg h7, if_neg h8, if_pos h9] at hone
    conv => whnf
    have ht : l.take (min c.n.toNat l.length) = l.take c.n.toNat := by
      rw [← List.take_take, List.take_length]
    refine ⟨min c.n.toNat l.length, by omega, by omega, ?_⟩
    repeat' (first | exact True.intro | refine ⟨_, LeL.refl _, ?_⟩ | refine ⟨_, _, _, LeL.refl _, ?_⟩ | (refine fun (b : Bool) hb => ?_; cases b <;> (first | exact absurd hb (by decide) | exact Bool.noConfusion (show true = false from hb) | exact Bool.noConfusion (show false = true from hb) | skip)) | (refine fun (hl : _ ≤ MAXL) => ?_) | refine And.intro (a := I64 _) ?_ ?_ | refine And.intro (a := _ ≤ 140737488355328) ?_ ?_ | refine ⟨_, ⟨rfl, rfl⟩, ?_⟩ | refine ⟨_, And.intro (a := I64 _) ?_ ⟨rfl, rfl⟩, ?_⟩ | refine ⟨_, _, ⟨rfl, rfl⟩, ?_⟩ | refine ⟨_, (fun _ => ⟨rfl, rfl⟩), ?_⟩ | refine And.intro (a := chkPend _ _ _ _ _ _) ?_ ?_ | refine And.intro (a := chkPast _ _ _ _ _ _ _ _) ?_ ?_ | refine ⟨⟨rfl, rfl⟩, ?_⟩ | refine And.intro (And.intro rfl rfl) ?_ | refine ⟨True.intro, ?_⟩ | refine ⟨_, ⟨_, rfl, ?_, rfl, rfl, rfl⟩, ?_⟩ | refine ⟨_, rfl, ?_, rfl, ?_⟩ | refine ⟨_, (fun _ => rfl), rfl, ?_⟩ | refine ⟨(fun _ => rfl), ?_⟩ | refine ⟨rfl, ?_⟩ | refine Opt.a ?_ | fail)
    · show (0 + ((l.take (min c.n.toNat l.length)).map strV).length) * 16 ≤ 140737488355328
      rw [List.length_map, List.length_take]
      omega
    · exact hone _ ht.symm
    · have h : true = true → l.take (min c.n.toNat l.length) = [] := by assumption
      refine ⟨_, strV, hone _ (ht.symm.trans (h rfl))⟩
  · have h6 : ¬ c.kind = 6 := of_decide_eq_false (by assumption)
    have h7 : ¬ c.kind = 7 := of_decide_eq_false (by assumption)
    have h8 : c.kind = 8 := of_decide_eq_true (by assumption)
    rw [if_neg h6, if_neg h7, if_pos h8] at hone
    refine ⟨l.length, rfl, ⟨by omega, by omega⟩, ?_⟩
    repeat' (first | exact True.intro | refine ⟨_, LeL.refl _, ?_⟩ | refine ⟨_, _, _, LeL.refl _, ?_⟩ | (refine fun (b : Bool) hb => ?_; cases b <;> (first | exact absurd hb (by decide) | exact Bool.noConfusion (show true = false from hb) | exact Bool.noConfusion (show false = true from hb) | skip)) | (refine fun (hl : _ ≤ MAXL) => ?_) | refine And.intro (a := I64 _) ?_ ?_ | refine And.intro (a := _ ≤ 140737488355328) ?_ ?_ | refine ⟨_, ⟨rfl, rfl⟩, ?_⟩ | refine ⟨_, And.intro (a := I64 _) ?_ ⟨rfl, rfl⟩, ?_⟩ | refine ⟨_, _, ⟨rfl, rfl⟩, ?_⟩ | refine ⟨_, (fun _ => ⟨rfl, rfl⟩), ?_⟩ | refine And.intro (a := chkPend _ _ _ _ _ _) ?_ ?_ | refine And.intro (a := chkPast _ _ _ _ _ _ _ _) ?_ ?_ | refine ⟨⟨rfl, rfl⟩, ?_⟩ | refine And.intro (And.intro rfl rfl) ?_ | refine ⟨True.intro, ?_⟩ | refine ⟨_, ⟨_, rfl, ?_, rfl, rfl, rfl⟩, ?_⟩ | refine ⟨_, rfl, ?_, rfl, ?_⟩ | refine ⟨_, (fun _ => rfl), rfl, ?_⟩ | refine ⟨(fun _ => rfl), ?_⟩ | refine ⟨rfl, ?_⟩ | refine Opt.a ?_ | fail)
    refine ⟨Bs, strV, [Lib.itoa l.length], LeL.refl _, ?_⟩
    exact hone _ rfl
  · show (0 + (l.map strV).length) * 16 ≤ 140737488355328
    rw [List.length_map]
    omega
  · refine .inl ⟨l, rfl, rfl, ?_⟩
    repeat' (first | exact True.intro | refine ⟨_, LeL.refl _, ?_⟩ | refine ⟨_, _, _, LeL.refl _, ?_⟩ | (refine fun (b : Bool) hb => ?_; cases b <;> (first | exact absurd hb (by decide) | exact Bool.noConfusion (show true = false from hb) | exact Bool.noConfusion (show false = true from hb) | skip)) | (refine fun (hl : _ ≤ MAXL) => ?_) | refine And.intro (a := I64 _) ?_ ?_ | refine And.intro (a := _ ≤ 140737488355328) ?_ ?_ | refine ⟨_, ⟨rfl, rfl⟩, ?_⟩ | refine ⟨_, And.intro (a := I64 _) ?_ ⟨rfl, rfl⟩, ?_⟩ | refine ⟨_, _, ⟨rfl, rfl⟩, ?_⟩ | refine ⟨_, (fun _ => ⟨rfl, rfl⟩), ?_⟩ | refine And.intro (a := chkPend _ _ _ _ _ _) ?_ ?_ | refine And.intro (a := chkPast _ _ _ _ _ _ _ _) ?_ ?_ | refine ⟨⟨rfl, rfl⟩, ?_⟩ | refine And.intro (And.intro rfl rfl) ?_ | refine ⟨True.intro, ?_⟩ | refine ⟨_, ⟨_, rfl, ?_, rfl, rfl, rfl⟩, ?_⟩ | refine ⟨_, rfl, ?_, rfl, ?_⟩ | refine ⟨_, (fun _ => rfl), rfl, ?_⟩ | refine ⟨(fun _ => rfl), ?_⟩ | refine ⟨rfl, ?_⟩ | refine Opt.a ?_ | fail)
    have h6 : ¬ c.kind = 6 := of_decide_eq_false (by assumption)
    have h7 : c.kind = 7 := of_decide_eq_true (by assumption)
    rw [if_neg h6, if_pos h7] at hone
    exact hone _ rfl
  · have h : true = true → l = [] := by assumption
    refine .inr ⟨rfl, rfl, ?_⟩
    repeat' (first | exact True.intro | refine ⟨_, LeL.refl _, ?_⟩ | refine ⟨_, _, _, LeL.refl _, ?_⟩ | (refine fun (b : Bool) hb => ?_; cases b <;> (first | exact absurd hb (by decide) | exact Bool.noConfusion (show true = false from hb) | exact Bool.noConfusion (show false = true from hb) | skip)) | (refine fun (hl : _ ≤ MAXL) => ?_) | refine And.intro (a := I64 _) ?_ ?_ | refine And.intro (a := _ ≤ 140737488355328) ?_ ?_ | refine ⟨_, ⟨rfl, rfl⟩, ?_⟩ | refine ⟨_, And.intro (a := I64 _) ?_ ⟨rfl, rfl⟩, ?_⟩ | refine ⟨_, _, ⟨rfl, rfl⟩, ?_⟩ | refine ⟨_, (fun _ => ⟨rfl, rfl⟩), ?_⟩ | refine And.intro (a := chkPend _ _ _ _ _ _) ?_ ?_ | refine And.intro (a := chkPast _ _ _ _ _ _ _ _) ?_ ?_ | refine ⟨⟨rfl, rfl⟩, ?_⟩ | refine And.intro (And.intro rfl rfl) ?_ | refine ⟨True.intro, ?_⟩ | refine ⟨_, ⟨_, rfl, ?_, rfl, rfl, rfl⟩, ?_⟩ | refine ⟨_, rfl, ?_, rfl, ?_⟩ | refine ⟨_, (fun _ => rfl), rfl, ?_⟩ | refine ⟨(fun _ => rfl), ?_⟩ | refine ⟨rfl, ?_⟩ | refine Opt.a ?_ | fail)
    have h6 : ¬ c.kind = 6 := of_decide_eq_false (by assumption)
    have h7 : c.kind = 7 := of_decide_eq_true (by assumption)
    rw [if_neg h6, if_pos h7, h rfl] at hone
    exact ⟨_, strV, hone [] (by simp [onceB, Lib.compact, Lib.compactUpTo])⟩
  · show (0 + (l.map strV).length) * 16 ≤ 140737488355328
    rw [List.length_map]
    omega
  · refine .inl ⟨l, rfl, rfl, by omega, ?_⟩
    repeat' (first | exact True.intro | refine ⟨_, LeL.refl _, ?_⟩ | refine ⟨_, _, _, LeL.refl _, ?_⟩ | (refine fun (b : Bool) hb => ?_; cases b <;> (first | exact absurd hb (by decide) | exact Bool.noConfusion (show true = false from hb) | exact Bool.noConfusion (show false = true from hb) | skip)) | (refine fun (hl : _ ≤ MAXL) => ?_) | refine And.intro (a := I64 _) ?_ ?_ | refine And.intro (a := _ ≤ 140737488355328) ?_ ?_ | refine ⟨_, ⟨rfl, rfl⟩, ?_⟩ | refine ⟨_, And.intro (a := I64 _) ?_ ⟨rfl, rfl⟩, ?_⟩ | refine ⟨_, _, ⟨rfl, rfl⟩, ?_⟩ | refine ⟨_, (fun _ => ⟨rfl, rfl⟩), ?_⟩ | refine And.intro (a := chkPend _ _ _ _ _ _) ?_ ?_ | refine And.intro (a := chkPast _ _ _ _ _ _ _ _) ?_ ?_ | refine ⟨⟨rfl, rfl⟩, ?_⟩ | refine And.intro (And.intro rfl rfl) ?_ | refine ⟨True.intro, ?_⟩ | refine ⟨_, ⟨_, rfl, ?_, rfl, rfl, rfl⟩, ?_⟩ | refine ⟨_, rfl, ?_, rfl, ?_⟩ | refine ⟨_, (fun _ => rfl), rfl, ?_⟩ | refine ⟨(fun _ => rfl), ?_⟩ | refine ⟨rfl, ?_⟩ | refine Opt.a ?_ | fail)
    have h6 : c.kind = 6 := of_decide_eq_true (by assumption)
    rw [if_pos h6] at hone
    exact hone _ rfl
  · have h : true = true → l = [] := by assumption
    refine .inr ⟨rfl, rfl, ?_⟩
    repeat' (first | exact True.intro | refine ⟨_, LeL.refl _, ?_⟩ | refine ⟨_, _, _, LeL.refl _, ?_⟩ | (refine fun (b : Bool) hb => ?_; cases b <;> (first | exact absurd hb (by decide) | exact Bool.noConfusion (show true = false from hb) | exact Bool.noConfusion (show false = true from hb) | skip)) | (refine fun (hl : _ ≤ MAXL) => ?_) | refine And.intro (a := I64 _) ?_ ?_ | refine And.intro (a := _ ≤ 140737488355328) ?_ ?_ | refine ⟨_, ⟨rfl, rfl⟩, ?_⟩ | refine ⟨_, And.intro (a := I64 _) ?_ ⟨rfl, rfl⟩, ?_⟩ | refine ⟨_, _, ⟨rfl, rfl⟩, ?_⟩ | refine ⟨_, (fun _ => ⟨rfl, rfl⟩), ?_⟩ | refine And.intro (a := chkPend _ _ _ _ _ _) ?_ ?_ | refine And.intro (a := chkPast _ _ _ _ _ _ _ _) ?_ ?_ | refine ⟨⟨rfl, rfl⟩, ?_⟩ | refine And.intro (And.intro rfl rfl) ?_ | refine ⟨True.intro, ?_⟩ | refine ⟨_, ⟨_, rfl, ?_, rfl, rfl, rfl⟩, ?_⟩ | refine ⟨_, rfl, ?_, rfl, ?_⟩ | refine ⟨_, (fun _ => rfl), rfl, ?_⟩ | refine ⟨(fun _ => rfl), ?_⟩ | refine ⟨rfl, ?_⟩ | refine Opt.a ?_ | fail)
    have h6 : c.kind = 6 := of_decide_eq_true (by assumption)
    rw [if_pos h6, h rfl] at hone
    exact ⟨_, strV, hone [] (by simp [sortB])⟩
end Gv
