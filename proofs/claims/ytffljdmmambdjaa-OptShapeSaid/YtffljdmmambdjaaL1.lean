/- What functions of the program come to (L1): in every world; the conditions stand in each theorem. -/
import Derived.Test.YtffljdmmambdjaaVc
import Derived.Test.YtffljdmmambdjaaProg
set_option linter.unusedSimpArgs false
set_option linter.unusedVariables false
set_option linter.unusedSectionVars false
open Go Go.Proofs Gw
namespace Gv
variable [Glob]
noncomputable def tys : List (Nat × TI) := [(3, ⟨(.int .i64 0), 1, 8, false, (.int .i64)⟩),
    (4, ⟨(.bool false), 1, 1, false, .bool⟩),
    (5, ⟨(.int .u8 0), 1, 1, false, (.int .u8)⟩),
    (9, ⟨(.string ⟨#[]⟩), 1, 16, false, .str⟩),
    (22, ⟨(.int .i64 0), 1, 8, false, (.int .i64)⟩),
    (23, ⟨(.slice none 0 0), 1, 24, false, (.slice 22)⟩),
    (24, ⟨(.slice none 0 0), 1, 24, false, (.slice 3)⟩),
    (27, ⟨(.slice none 0 0), 1, 24, false, (.slice 5)⟩),
    (29, ⟨(.agg #[(.slice none 0 0), (.int .i64 0), (.bool false), (.bool false)]), 4, 40, true, (.struct [(27, 0), (3, 1), (4, 2), (4, 3)])⟩),
    (45, ⟨(.slice none 0 0), 1, 24, false, (.slice 9)⟩),
    (46, ⟨(.slice none 0 0), 1, 24, false, (.slice 56)⟩),
    (48, ⟨(.agg #[(.slice none 0 0), (.slice none 0 0), (.string ⟨#[]⟩)]), 3, 64, true, (.struct [(45, 0), (46, 1), (9, 2)])⟩),
    (49, ⟨(.slice none 0 0), 1, 24, false, (.slice 59)⟩),
    (51, ⟨(.agg #[(.slice none 0 0)]), 1, 24, true, (.struct [(49, 0)])⟩),
    (54, ⟨(.map none), 1, 8, false, (.map 3 3)⟩),
    (56, ⟨(.agg #[(.int .i64 0), (.string ⟨#[]⟩), (.int .i64 0)]), 3, 32, true, (.struct [(3, 0), (9, 1), (3, 2)])⟩),
    (57, ⟨(.slice none 0 0), 1, 24, false, (.slice 79)⟩),
    (59, ⟨(.agg #[(.int .i64 0), (.string ⟨#[]⟩), (.int .i64 0), (.string ⟨#[]⟩), (.int .i64 0), (.int .i64 0), (.int .i64 0), (.slice none 0 0)]), 8, 96, true, (.struct [(3, 0), (9, 1), (56, 2), (3, 5), (3, 6), (57, 7)])⟩),
    (66, ⟨(.slice none 0 0), 1, 24, false, (.slice 27)⟩),
    (72, ⟨(.pointer none), 1, 8, false, .other⟩),
    (75, ⟨(.pointer none), 1, 8, false, .other⟩),
    (77, ⟨(.agg #[(.slice none 0 0), (.slice none 0 0)]), 2, 48, true, (.struct [(51, 0), (57, 1)])⟩),
    (79, ⟨(.agg #[(.int .i64 0), (.int .i64 0)]), 2, 16, true, (.struct [(3, 0), (3, 1)])⟩),
    (96, ⟨.nilFunc, 1, 8, false, .other⟩),
    (102, ⟨.nilFunc, 1, 8, false, .other⟩)]
theorem mixed0 : (Try.prog).follows .mixedOrders = true := by kernel_rfl
theorem tys0 : TysOK Try.prog tys := tys_ok (by kernel_rfl)
theorem E0ok : EnvOK ⟨Try.prog, tys, [], [], [], []⟩ := env_ok mixed0 tys0 .nil .nil .nil rfl
theorem equalB_ca : callable Try.prog 15 = true := by kernel_rfl
def equalB_S : Spec := fun args K => ∃ a b : List UInt8, args = [.sl byteV a, .sl byteV b] ∧ K (.bool (decide (a = b)))
theorem equalB_ok : Pure Try.prog 15 equalB_S := by
  refine pure_by E0ok 0 (fi := {fn := Try.f15, hooks := [], draws := [(6, [0, 0, 3, 7, 0, 0, 48, 112, 255])]}) ⟨Try.func15, by kernel_rfl, by kernel_rfl⟩ ?_
  rintro _ K ⟨x, y, rfl, hK⟩
  replace hK : ∀ r, r = .bool (decide (x = y)) → K r := fun r h => h ▸ hK
  repeat' (first | exact True.intro | refine ⟨_, LeL.refl _, ?_⟩ | refine ⟨_, _, _, LeL.refl _, ?_⟩ | (refine fun (b : Bool) hb => ?_; cases b <;> (first | exact absurd hb (by decide) | exact Bool.noConfusion (show true = false from hb) | exact Bool.noConfusion (show false = true from hb) | skip)) | (refine fun (hl : _ ≤ MAXL) => ?_) | refine And.intro (a := I64 _) ?_ ?_ | refine And.intro (a := _ ≤ 140737488355328) ?_ ?_ | refine ⟨_, ⟨rfl, rfl⟩, ?_⟩ | refine ⟨_, And.intro (a := I64 _) ?_ ⟨rfl, rfl⟩, ?_⟩ | refine ⟨_, _, ⟨rfl, rfl⟩, ?_⟩ | refine ⟨_, (fun _ => ⟨rfl, rfl⟩), ?_⟩ | refine And.intro (a := chkPend _ _ _ _ _ _) ?_ ?_ | refine And.intro (a := chkPast _ _ _ _ _ _ _ _) ?_ ?_ | refine ⟨⟨rfl, rfl⟩, ?_⟩ | refine ⟨True.intro, ?_⟩ | refine ⟨_, ⟨_, rfl, ?_, rfl, rfl, rfl⟩, ?_⟩ | refine ⟨_, rfl, ?_, rfl, ?_⟩ | refine ⟨_, (fun _ => rfl), rfl, ?_⟩ | refine ⟨(fun _ => rfl), ?_⟩ | refine ⟨rfl, ?_⟩ | fail)
  rotate_left
  · refine hK _ ?_
    congr 1
    grind
  conv => whnf
  refine loop_intro (σ := Nat) (fun i => [(0, .sl byteV x), (1, .sl byteV y), (12, .int .i64 x.length), (13, .int .i64 i), (4, .lit false)]) (fun _ => []) (fun i => i ≤ x.length ∧ x.take i = y.take i) (fun i => x.length - i) 0 (wk_sel [] rfl rfl trivial ?_) ⟨Nat.zero_le _, rfl⟩ ?_
  · (repeat' (first | exact True.intro | exact rfl | exact Or.inl rfl | exact Or.inr rfl | refine And.intro ?_ ?_ | fail))
  intro i ⟨hi, hI⟩
  repeat' (first | exact True.intro | refine ⟨_, LeL.refl _, ?_⟩ | refine ⟨_, _, _, LeL.refl _, ?_⟩ | (refine fun (b : Bool) hb => ?_; cases b <;> (first | exact absurd hb (by decide) | exact Bool.noConfusion (show true = false from hb) | exact Bool.noConfusion (show false = true from hb) | skip)) | (refine fun (hl : _ ≤ MAXL) => ?_) | refine And.intro (a := I64 _) ?_ ?_ | refine And.intro (a := _ ≤ 140737488355328) ?_ ?_ | refine ⟨_, ⟨rfl, rfl⟩, ?_⟩ | refine ⟨_, And.intro (a := I64 _) ?_ ⟨rfl, rfl⟩, ?_⟩ | refine ⟨_, _, ⟨rfl, rfl⟩, ?_⟩ | refine ⟨_, (fun _ => ⟨rfl, rfl⟩), ?_⟩ | refine And.intro (a := chkPend _ _ _ _ _ _) ?_ ?_ | refine And.intro (a := chkPast _ _ _ _ _ _ _ _) ?_ ?_ | refine ⟨⟨rfl, rfl⟩, ?_⟩ | refine ⟨True.intro, ?_⟩ | refine ⟨_, ⟨_, rfl, ?_, rfl, rfl, rfl⟩, ?_⟩ | refine ⟨_, rfl, ?_, rfl, ?_⟩ | refine ⟨_, (fun _ => rfl), rfl, ?_⟩ | refine ⟨(fun _ => rfl), ?_⟩ | refine ⟨rfl, ?_⟩ | fail)
  · refine hK _ ?_
    congr 1
    have e : x = y := by
      have h1 : x.take i = x := List.take_of_length_le (by grind)
      have h2 : y.take i = y := List.take_of_length_le (by grind)
      rw [← h1, ← h2, hI]
    simp [e]
  · grind
  · grind
  · unfold I64; grind
  · refine ⟨i + 1, ?_, ⟨?_, ?_⟩, ?_⟩
    · refine wk_sel [] rfl rfl trivial ?_
      (repeat' (first | exact True.intro | exact rfl | exact Or.inl rfl | exact Or.inr rfl | refine And.intro ?_ ?_ | fail))
    · grind
    · have g1 : i < x.length := by grind
      have g2 : i < y.length := by grind
      rw [List.take_succ_eq_append_getElem g1, List.take_succ_eq_append_getElem g2, hI]
      have e : x[i].toNat = y[i].toNat := by grind
      rw [UInt8.toNat_inj.1 e]
    · grind
  · refine hK _ ?_
    congr 1
    grind
/-! at -/
def atI (k n : Int) : Int := if k.tmod n < 0 then k.tmod n + n else k.tmod n
theorem at_ca : callable Try.prog 11 = true := by kernel_rfl
def at_S : Spec := fun args K => ∃ k n : Int, args = [.int .i64 k, .int .i64 n] ∧ I64 k ∧ 0 < n ∧ n ≤ 1000000 ∧ K (.int .i64 (atI k n))
theorem at_ok : Pure Try.prog 11 at_S := by
  refine pure_by E0ok 0 (fi := {fn := Try.f11, hooks := [], draws := []}) ⟨Try.func11, by kernel_rfl, by kernel_rfl⟩ ?_
  rintro _ K ⟨k, n, rfl, hk, h0, h1, hK⟩
  replace hK : ∀ r, r = .int .i64 (atI k n) → K r := fun r h => h ▸ hK
  have e1 := Int.tmod_lt_of_pos k h0
  have e2 := Int.lt_tmod_of_pos k h0
  refine And.intro (by omega) ?_
  repeat' (first | exact True.intro | refine ⟨_, LeL.refl _, ?_⟩ | refine ⟨_, _, _, LeL.refl _, ?_⟩ | (refine fun (b : Bool) hb => ?_; cases b <;> (first | exact absurd hb (by decide) | exact Bool.noConfusion (show true = false from hb) | exact Bool.noConfusion (show false = true from hb) | skip)) | (refine fun (hl : _ ≤ MAXL) => ?_) | refine And.intro (a := I64 _) ?_ ?_ | refine And.intro (a := _ ≤ 140737488355328) ?_ ?_ | refine ⟨_, ⟨rfl, rfl⟩, ?_⟩ | refine ⟨_, And.intro (a := I64 _) ?_ ⟨rfl, rfl⟩, ?_⟩ | refine ⟨_, _, ⟨rfl, rfl⟩, ?_⟩ | refine ⟨_, (fun _ => ⟨rfl, rfl⟩), ?_⟩ | refine And.intro (a := chkPend _ _ _ _ _ _) ?_ ?_ | refine And.intro (a := chkPast _ _ _ _ _ _ _ _) ?_ ?_ | refine ⟨⟨rfl, rfl⟩, ?_⟩ | refine ⟨True.intro, ?_⟩ | refine ⟨_, ⟨_, rfl, ?_, rfl, rfl, rfl⟩, ?_⟩ | refine ⟨_, rfl, ?_, rfl, ?_⟩ | refine ⟨_, (fun _ => rfl), rfl, ?_⟩ | refine ⟨(fun _ => rfl), ?_⟩ | refine ⟨rfl, ?_⟩ | fail)
  · refine hK _ ?_
    congr 1
    grind [atI]
  · unfold I64; grind
  · refine hK _ ?_
    congr 1
    grind [atI]
/-! pipes -/
structure PipeS where
  b : List UInt8
  room : Int
  closed : Bool
  shut : Bool
def pipeV (p : PipeS) : V := .agg [.sl byteV p.b, .int .i64 p.room, .bool p.closed, .bool p.shut]
def pipeCheck (p : PipeS) : Int :=
  if p.room < 0 ∨ 1000 < p.room then 3 else if (0 < p.room ∧ p.room < p.b.length) ∨ 40000 < p.b.length then 2 else if p.shut = true ∧ 0 < p.b.length then 4 else 0
theorem check_ca : callable Try.prog 14 = true := by kernel_rfl
def check_S : Spec := fun args K => ∃ p, args = [pipeV p] ∧ K (.int .i64 (pipeCheck p))
theorem check_ok : Pure Try.prog 14 check_S := by
  refine pure_by E0ok 0 (fi := {fn := Try.f14, hooks := [], draws := []}) ⟨Try.func14, by kernel_rfl, by kernel_rfl⟩ ?_
  rintro _ K ⟨p, rfl, hK⟩
  replace hK : ∀ r, r = .int .i64 (pipeCheck p) → K r := fun r h => h ▸ hK
  repeat' (first | exact True.intro | refine ⟨_, LeL.refl _, ?_⟩ | refine ⟨_, _, _, LeL.refl _, ?_⟩ | (refine fun (b : Bool) hb => ?_; cases b <;> (first | exact absurd hb (by decide) | exact Bool.noConfusion (show true = false from hb) | exact Bool.noConfusion (show false = true from hb) | skip)) | (refine fun (hl : _ ≤ MAXL) => ?_) | refine And.intro (a := I64 _) ?_ ?_ | refine And.intro (a := _ ≤ 140737488355328) ?_ ?_ | refine ⟨_, ⟨rfl, rfl⟩, ?_⟩ | refine ⟨_, And.intro (a := I64 _) ?_ ⟨rfl, rfl⟩, ?_⟩ | refine ⟨_, _, ⟨rfl, rfl⟩, ?_⟩ | refine ⟨_, (fun _ => ⟨rfl, rfl⟩), ?_⟩ | refine And.intro (a := chkPend _ _ _ _ _ _) ?_ ?_ | refine And.intro (a := chkPast _ _ _ _ _ _ _ _) ?_ ?_ | refine ⟨⟨rfl, rfl⟩, ?_⟩ | refine ⟨True.intro, ?_⟩ | refine ⟨_, ⟨_, rfl, ?_, rfl, rfl, rfl⟩, ?_⟩ | refine ⟨_, rfl, ?_, rfl, ?_⟩ | refine ⟨_, (fun _ => rfl), rfl, ?_⟩ | refine ⟨(fun _ => rfl), ?_⟩ | refine ⟨rfl, ?_⟩ | fail)
  all_goals (refine hK _ ?_; simp only [pipeCheck]; congr 1; grind)
def pipeNew (r : Int) : PipeS × Int := if r < 0 ∨ 1000 < r then (⟨[], 0, false, false⟩, 3) else (⟨[], r, false, false⟩, 0)
theorem new_ca : callable Try.prog 9 = true := by kernel_rfl
def new_S : Spec := fun args K => ∃ r, args = [.int .i64 r] ∧ K (.tup [pipeV (pipeNew r).1, .int .i64 (pipeNew r).2])
theorem new_ok : Pure Try.prog 9 new_S := by
  refine pure_by E0ok 0 (fi := {fn := Try.f9, hooks := [], draws := []}) ⟨Try.func9, by kernel_rfl, by kernel_rfl⟩ ?_
  rintro _ K ⟨r, rfl, hK⟩
  replace hK : ∀ p, p = .tup [pipeV (pipeNew r).1, .int .i64 (pipeNew r).2] → K p := fun r h => h ▸ hK
  repeat' (first | exact True.intro | refine ⟨_, LeL.refl _, ?_⟩ | refine ⟨_, _, _, LeL.refl _, ?_⟩ | (refine fun (b : Bool) hb => ?_; cases b <;> (first | exact absurd hb (by decide) | exact Bool.noConfusion (show true = false from hb) | exact Bool.noConfusion (show false = true from hb) | skip)) | (refine fun (hl : _ ≤ MAXL) => ?_) | refine And.intro (a := I64 _) ?_ ?_ | refine And.intro (a := _ ≤ 140737488355328) ?_ ?_ | refine ⟨_, ⟨rfl, rfl⟩, ?_⟩ | refine ⟨_, And.intro (a := I64 _) ?_ ⟨rfl, rfl⟩, ?_⟩ | refine ⟨_, _, ⟨rfl, rfl⟩, ?_⟩ | refine ⟨_, (fun _ => ⟨rfl, rfl⟩), ?_⟩ | refine And.intro (a := chkPend _ _ _ _ _ _) ?_ ?_ | refine And.intro (a := chkPast _ _ _ _ _ _ _ _) ?_ ?_ | refine ⟨⟨rfl, rfl⟩, ?_⟩ | refine ⟨True.intro, ?_⟩ | refine ⟨_, ⟨_, rfl, ?_, rfl, rfl, rfl⟩, ?_⟩ | refine ⟨_, rfl, ?_, rfl, ?_⟩ | refine ⟨_, (fun _ => rfl), rfl, ?_⟩ | refine ⟨(fun _ => rfl), ?_⟩ | refine ⟨rfl, ?_⟩ | refine ⟨UInt8, byteV, ?_⟩ | fail)
  all_goals (refine hK _ ?_; grind [pipeV, pipeNew])
/-! clone -/
theorem cloneB_ca : callable Try.prog 30 = true := by kernel_rfl
def cloneB_S : Spec := fun args K => ∃ a : List UInt8, args = [.sl byteV a] ∧ a.length ≤ 1000000 ∧ K (.sl byteV a)
theorem cloneB_ok : Pure Try.prog 30 cloneB_S := by
  refine pure_by E0ok 0 (fi := {fn := Try.f30, hooks := [], draws := []}) ⟨Try.func30, by kernel_rfl, by kernel_rfl⟩ ?_
  rintro _ K ⟨x, rfl, hx, hK⟩
  replace hK : ∀ p, p = .sl byteV x → K p := fun r h => h ▸ hK
  repeat' (first | exact True.intro | refine ⟨_, LeL.refl _, ?_⟩ | refine ⟨_, _, _, LeL.refl _, ?_⟩ | (refine fun (b : Bool) hb => ?_; cases b <;> (first | exact absurd hb (by decide) | exact Bool.noConfusion (show true = false from hb) | exact Bool.noConfusion (show false = true from hb) | skip)) | (refine fun (hl : _ ≤ MAXL) => ?_) | refine And.intro (a := I64 _) ?_ ?_ | refine And.intro (a := _ ≤ 140737488355328) ?_ ?_ | refine ⟨_, ⟨rfl, rfl⟩, ?_⟩ | refine ⟨_, And.intro (a := I64 _) ?_ ⟨rfl, rfl⟩, ?_⟩ | refine ⟨_, _, ⟨rfl, rfl⟩, ?_⟩ | refine ⟨_, (fun _ => ⟨rfl, rfl⟩), ?_⟩ | refine And.intro (a := chkPend _ _ _ _ _ _) ?_ ?_ | refine And.intro (a := chkPast _ _ _ _ _ _ _ _) ?_ ?_ | refine ⟨⟨rfl, rfl⟩, ?_⟩ | refine ⟨True.intro, ?_⟩ | refine ⟨_, ⟨_, rfl, ?_, rfl, rfl, rfl⟩, ?_⟩ | refine ⟨_, rfl, ?_, rfl, ?_⟩ | refine ⟨_, (fun _ => rfl), rfl, ?_⟩ | refine ⟨(fun _ => rfl), ?_⟩ | refine ⟨rfl, ?_⟩ | refine ⟨UInt8, byteV, ?_⟩ | refine ⟨UInt8, byteV, _, LeL.refl _, ?_⟩ | refine ⟨(fun _ => rfl), ?_⟩ | fail)
  · simp
    omega
  · exact hK _ rfl
  · rename_i h
    have e := h rfl
    subst e
    exact hK _ rfl
end Gv
