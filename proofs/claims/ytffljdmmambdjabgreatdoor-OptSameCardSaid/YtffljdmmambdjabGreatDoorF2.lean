/- What functions of the program come to, part 2: in every world; the conditions stand in each theorem. -/
import Derived.Test.YtffljdmmambdjabGreatDoorF1
set_option linter.unusedVariables false
set_option linter.unusedSectionVars false
set_option linter.unusedSimpArgs false
open Go Go.Proofs Gw Gp
namespace Gv
variable [Glob] [Laid]
theorem cut_idx (l : Bs) : (cutNl l).2.2 = decide (0 ≤ idxB l 10) ∧ (0 ≤ idxB l 10 → idxB l 10 + 1 ≤ l.length ∧ (cutNl l).1 = l.take (idxB l 10).toNat ∧ (cutNl l).2.1 = l.drop ((idxB l 10).toNat + 1)) ∧ (idxB l 10 < 0 → cutNl l = (l, [], false)) := by
  unfold idxB
  rcases nl_cases l with h | ⟨a, r, rfl, ha⟩
  · have e : Lib.indexByte l 10 = -1 := by
      induction l with
      | nil => rfl
      | cons c l ih =>
        simp only [List.mem_cons, not_or] at h
        unfold Lib.indexByte
        rw [if_neg (by simpa using fun e => h.1 (e.symm)), ih h.2]
        rfl
    rw [e, cutNl_no h]
    refine ⟨rfl, fun h => by omega, fun _ => rfl⟩
  · have e : Lib.indexByte (a ++ 10 :: r) 10 = a.length := by
      induction a with
      | nil => rfl
      | cons c a ih =>
        simp only [List.mem_cons, not_or] at ha
        show Lib.indexByte (c :: (a ++ 10 :: r)) 10 = _
        unfold Lib.indexByte
        rw [if_neg (by simpa using fun e => ha.1 (e.symm)), ih ha.2, if_neg (by simp <;> omega)]
        simp
    rw [e, cutNl_nl ha]
    refine ⟨by simp, fun _ => ⟨by simp <;> omega, by simp, ?_⟩, fun h => by omega⟩
    rw [Int.toNat_natCast, show a.length + 1 = (a ++ [10]).length by simp, show a ++ 10 :: r = (a ++ [10]) ++ r by simp, List.drop_left]
theorem cut_ca : callable Tryz.prog 227 = true := by kernel_rfl
def cut_S : Spec := fun args K => ∃ (l : List UInt8), args = [.sl byteV l, .sl byteV [10]] ∧ l.length ≤ 1000000 ∧ K (.tup [.sl byteV (cutNl l).1, .sl byteV (cutNl l).2.1, .bool (cutNl l).2.2])
noncomputable def cut_lib : List (Nat × Spec) := [(266, index1_S)]
noncomputable def cut_fns : List (Nat × FnI) := []
noncomputable def cut_prims : List (Nat × PSpec) := []
theorem cut_E : EnvOK ⟨Tryz.prog, tys, cut_lib, cut_fns, cut_prims, []⟩ := env_ok mixed0 tys0 (.cons index1_ca index1_ok .nil) .nil .nil rfl
set_option maxHeartbeats 4000000 in
theorem cut_ok : Pure Tryz.prog 227 cut_S := by
  refine pure_by cut_E 6 (fi := {fn := Tryz.f227, hooks := [], draws := [(3, [0, 0, 3, 0, 0, 0, 32, 112, 248, 7, 1023, 2047])]}) ⟨Tryz.func227, by kernel_rfl, by kernel_rfl⟩ ?_
  rintro _ K ⟨l, rfl, hz, hK⟩
  replace hK : ∀ r, r = .tup [.sl byteV (cutNl l).1, .sl byteV (cutNl l).2.1, .bool (cutNl l).2.2] → K r := fun r h => h ▸ hK
  obtain ⟨h1, h2, h3⟩ := cut_idx l
  refine ⟨l, rfl, ?_⟩
  repeat' (first | exact True.intro | refine ⟨_, LeL.refl _, ?_⟩ | refine ⟨_, _, _, LeL.refl _, ?_⟩ | (refine fun (b : Bool) hb => ?_; cases b <;> (first | exact absurd hb (by decide) | exact Bool.noConfusion (show true = false from hb) | exact Bool.noConfusion (show false = true from hb) | skip)) | (refine fun (hl : _ ≤ MAXL) => ?_) | refine And.intro (a := I64 _) ?_ ?_ | refine And.intro (a := _ ≤ 140737488355328) ?_ ?_ | refine ⟨_, ⟨rfl, rfl⟩, ?_⟩ | refine ⟨_, And.intro (a := I64 _) ?_ ⟨rfl, rfl⟩, ?_⟩ | refine ⟨_, _, ⟨rfl, rfl⟩, ?_⟩ | refine ⟨_, (fun _ => ⟨rfl, rfl⟩), ?_⟩ | refine And.intro (a := chkPend _ _ _ _ _ _) ?_ ?_ | refine And.intro (a := chkPast _ _ _ _ _ _ _ _) ?_ ?_ | refine ⟨⟨rfl, rfl⟩, ?_⟩ | refine And.intro (And.intro rfl rfl) ?_ | refine ⟨True.intro, ?_⟩ | refine ⟨_, ⟨_, rfl, ?_, rfl, rfl, rfl⟩, ?_⟩ | refine ⟨_, rfl, ?_, rfl, ?_⟩ | refine ⟨_, (fun _ => rfl), rfl, ?_⟩ | refine ⟨(fun _ => rfl), ?_⟩ | refine ⟨rfl, ?_⟩ | refine Opt.a ?_ | refine ⟨UInt8, byteV, ?_⟩ | fail)
  · refine hK _ ?_
    rw [h3 (by grind)]
  have hi : 0 ≤ idxB l 10 := by grind
  obtain ⟨g1, g2, g3⟩ := h2 hi
  refine ⟨_, ⟨fun _ => rfl, (idxB l 10).toNat, by omega, by omega, rfl, rfl⟩, ?_⟩
  repeat' (first | exact True.intro | refine ⟨_, LeL.refl _, ?_⟩ | refine ⟨_, _, _, LeL.refl _, ?_⟩ | (refine fun (b : Bool) hb => ?_; cases b <;> (first | exact absurd hb (by decide) | exact Bool.noConfusion (show true = false from hb) | exact Bool.noConfusion (show false = true from hb) | skip)) | (refine fun (hl : _ ≤ MAXL) => ?_) | refine And.intro (a := I64 _) ?_ ?_ | refine And.intro (a := _ ≤ 140737488355328) ?_ ?_ | refine ⟨_, ⟨rfl, rfl⟩, ?_⟩ | refine ⟨_, And.intro (a := I64 _) ?_ ⟨rfl, rfl⟩, ?_⟩ | refine ⟨_, _, ⟨rfl, rfl⟩, ?_⟩ | refine ⟨_, (fun _ => ⟨rfl, rfl⟩), ?_⟩ | refine And.intro (a := chkPend _ _ _ _ _ _) ?_ ?_ | refine And.intro (a := chkPast _ _ _ _ _ _ _ _) ?_ ?_ | refine ⟨⟨rfl, rfl⟩, ?_⟩ | refine And.intro (And.intro rfl rfl) ?_ | refine ⟨True.intro, ?_⟩ | refine ⟨_, ⟨_, rfl, ?_, rfl, rfl, rfl⟩, ?_⟩ | refine ⟨_, rfl, ?_, rfl, ?_⟩ | refine ⟨_, (fun _ => rfl), rfl, ?_⟩ | refine ⟨(fun _ => rfl), ?_⟩ | refine ⟨rfl, ?_⟩ | refine Opt.a ?_ | fail)
  · simp only [List.length_cons, List.length_nil]
    unfold I64
    omega
  refine ⟨_, ⟨fun _ => rfl, (idxB l 10).toNat + 1, ?_, by omega, rfl, rfl⟩, ?_⟩
  · simp only [List.length_cons, List.length_nil]
    omega
  repeat' (first | exact True.intro | refine ⟨_, LeL.refl _, ?_⟩ | refine ⟨_, _, _, LeL.refl _, ?_⟩ | (refine fun (b : Bool) hb => ?_; cases b <;> (first | exact absurd hb (by decide) | exact Bool.noConfusion (show true = false from hb) | exact Bool.noConfusion (show false = true from hb) | skip)) | (refine fun (hl : _ ≤ MAXL) => ?_) | refine And.intro (a := I64 _) ?_ ?_ | refine And.intro (a := _ ≤ 140737488355328) ?_ ?_ | refine ⟨_, ⟨rfl, rfl⟩, ?_⟩ | refine ⟨_, And.intro (a := I64 _) ?_ ⟨rfl, rfl⟩, ?_⟩ | refine ⟨_, _, ⟨rfl, rfl⟩, ?_⟩ | refine ⟨_, (fun _ => ⟨rfl, rfl⟩), ?_⟩ | refine And.intro (a := chkPend _ _ _ _ _ _) ?_ ?_ | refine And.intro (a := chkPast _ _ _ _ _ _ _ _) ?_ ?_ | refine ⟨⟨rfl, rfl⟩, ?_⟩ | refine And.intro (And.intro rfl rfl) ?_ | refine ⟨True.intro, ?_⟩ | refine ⟨_, ⟨_, rfl, ?_, rfl, rfl, rfl⟩, ?_⟩ | refine ⟨_, rfl, ?_, rfl, ?_⟩ | refine ⟨_, (fun _ => rfl), rfl, ?_⟩ | refine ⟨(fun _ => rfl), ?_⟩ | refine ⟨rfl, ?_⟩ | refine Opt.a ?_ | fail)
  refine hK _ ?_
  rw [g2, g3, h1, decide_eq_true hi]
end Gv
namespace Gv
variable [Glob] [Laid]
theorem of_ca : callable Tryz.prog 158 = true := by kernel_rfl
def of_S : Spec := fun args K => ∃ (b : Bs), args = [.sl byteV b] ∧ b.length ≤ 1000000 ∧ K (.sl strV (linesOf b))
noncomputable def of_lib : List (Nat × Spec) := [(227, cut_S)]
noncomputable def of_fns : List (Nat × FnI) := []
noncomputable def of_prims : List (Nat × PSpec) := []
theorem of_E : EnvOK ⟨Tryz.prog, tys, of_lib, of_fns, of_prims, []⟩ := env_ok mixed0 tys0 (.cons cut_ca cut_ok .nil) .nil .nil rfl
set_option maxHeartbeats 4000000 in
theorem of_ok : Pure Tryz.prog 158 of_S := by
  refine pure_by of_E 6 (fi := {fn := Tryz.f158, hooks := [], draws := []}) ⟨Tryz.func158, by kernel_rfl, by kernel_rfl⟩ ?_
  rintro _ K ⟨b0, rfl, hz, hK⟩
  conv => whnf
  refine loop_live [] (σ := List Bs × Bs) (fun s => [(3, .own 0), (0, .sl byteV s.2)]) (fun s => [.row 1 (s.1.map strV)]) (fun s => s.1 ++ linesOf s.2 = linesOf b0 ∧ s.2.length + s.1.length ≤ 1000000) (fun s => s.2.length) ([], b0) ?_
  conv => whnf
  refine ⟨(by (refine wk_sel [none] rfl rfl ?_ ?_ <;> (repeat' (first | exact True.intro | exact rfl | exact Or.inl rfl | exact Or.inr rfl | refine And.intro ?_ ?_ | fail)))), ⟨rfl, hz⟩, fun s hs => ?_⟩
  obtain ⟨l, b⟩ := s
  obtain ⟨h1, h2⟩ := hs
  replace h1 : l ++ linesOf b = linesOf b0 := h1
  replace h2 : b.length + l.length ≤ 1000000 := h2
  repeat' (first | exact True.intro | refine ⟨_, LeL.refl _, ?_⟩ | refine ⟨_, _, _, LeL.refl _, ?_⟩ | (refine fun (b : Bool) hb => ?_; cases b <;> (first | exact absurd hb (by decide) | exact Bool.noConfusion (show true = false from hb) | exact Bool.noConfusion (show false = true from hb) | skip)) | (refine fun (hl : _ ≤ MAXL) => ?_) | refine And.intro (a := I64 _) ?_ ?_ | refine And.intro (a := _ ≤ 140737488355328) ?_ ?_ | refine ⟨_, ⟨rfl, rfl⟩, ?_⟩ | refine ⟨_, And.intro (a := I64 _) ?_ ⟨rfl, rfl⟩, ?_⟩ | refine ⟨_, _, ⟨rfl, rfl⟩, ?_⟩ | refine ⟨_, (fun _ => ⟨rfl, rfl⟩), ?_⟩ | refine And.intro (a := chkPend _ _ _ _ _ _) ?_ ?_ | refine And.intro (a := chkPast _ _ _ _ _ _ _ _) ?_ ?_ | refine ⟨⟨rfl, rfl⟩, ?_⟩ | refine And.intro (And.intro rfl rfl) ?_ | refine ⟨True.intro, ?_⟩ | refine ⟨_, ⟨_, rfl, ?_, rfl, rfl, rfl⟩, ?_⟩ | refine ⟨_, rfl, ?_, rfl, ?_⟩ | refine ⟨_, (fun _ => rfl), rfl, ?_⟩ | refine ⟨(fun _ => rfl), ?_⟩ | refine ⟨rfl, ?_⟩ | refine Opt.a ?_ | fail)
  · have : b = [] := by
      have h : decide (0 < (b.length : Int)) = false := by assumption
      cases b with
      | nil => rfl
      | cons c b => simp at h <;> omega
    subst this
    rw [linesOf_nil, List.append_nil] at h1
    rw [h1]
    exact hK
  have hb0 : b ≠ [] := by
    intro e
    subst e
    have h : decide ((0 : Int) < (([] : Bs).length : Int)) = true := by assumption
    simp at h
  have g1 := linesOf_cut hb0
  have g2 := cut_len hb0
  refine ⟨UInt8, byteV, [10], LeL.refl _, ?_⟩
  refine ⟨b, rfl, by omega, ?_⟩
  repeat' (first | exact True.intro | refine ⟨_, LeL.refl _, ?_⟩ | refine ⟨_, _, _, LeL.refl _, ?_⟩ | (refine fun (b : Bool) hb => ?_; cases b <;> (first | exact absurd hb (by decide) | exact Bool.noConfusion (show true = false from hb) | exact Bool.noConfusion (show false = true from hb) | skip)) | (refine fun (hl : _ ≤ MAXL) => ?_) | refine And.intro (a := I64 _) ?_ ?_ | refine And.intro (a := _ ≤ 140737488355328) ?_ ?_ | refine ⟨_, ⟨rfl, rfl⟩, ?_⟩ | refine ⟨_, And.intro (a := I64 _) ?_ ⟨rfl, rfl⟩, ?_⟩ | refine ⟨_, _, ⟨rfl, rfl⟩, ?_⟩ | refine ⟨_, (fun _ => ⟨rfl, rfl⟩), ?_⟩ | refine And.intro (a := chkPend _ _ _ _ _ _) ?_ ?_ | refine And.intro (a := chkPast _ _ _ _ _ _ _ _) ?_ ?_ | refine ⟨⟨rfl, rfl⟩, ?_⟩ | refine And.intro (And.intro rfl rfl) ?_ | refine ⟨True.intro, ?_⟩ | refine ⟨_, ⟨_, rfl, ?_, rfl, rfl, rfl⟩, ?_⟩ | refine ⟨_, rfl, ?_, rfl, ?_⟩ | refine ⟨_, (fun _ => rfl), rfl, ?_⟩ | refine ⟨(fun _ => rfl), ?_⟩ | refine ⟨rfl, ?_⟩ | refine Opt.a ?_ | fail)
  · simp only [List.length_map, List.length_cons, List.length_nil]
    have := List.length_pos_iff.2 hb0
    omega
  · refine ⟨(l ++ [(cutNl b).1], (cutNl b).2.1), ?_, ⟨?_, ?_⟩, g2.1⟩
    · refine wk_sel [some 3] rfl rfl ⟨?_, trivial⟩ ?_
      · rw [List.map_append]
        exact rfl
      · (repeat' (first | exact True.intro | exact rfl | exact Or.inl rfl | exact Or.inr rfl | refine And.intro ?_ ?_ | fail))
    · rw [← h1, g1, List.append_assoc]
      rfl
    · simp only [List.length_append, List.length_cons, List.length_nil]
      omega
end Gv
namespace Gv
variable [Glob] [Laid]
theorem linesL_ca : callable Tryz.prog 123 = true := by kernel_rfl
def linesL_S : Spec := fun args K => ∃ (b : Bs), args = [.sl byteV b] ∧ b.length ≤ 1000000 ∧ K (.sl strV (linesOf b))
noncomputable def linesL_lib : List (Nat × Spec) := [(158, of_S)]
noncomputable def linesL_fns : List (Nat × FnI) := []
noncomputable def linesL_prims : List (Nat × PSpec) := []
theorem linesL_E : EnvOK ⟨Tryz.prog, tys, linesL_lib, linesL_fns, linesL_prims, []⟩ := env_ok mixed0 tys0 (.cons of_ca of_ok .nil) .nil .nil rfl
set_option maxHeartbeats 4000000 in
theorem linesL_ok : Pure Tryz.prog 123 linesL_S := by
  refine pure_by linesL_E 6 (fi := {fn := Tryz.f123, hooks := [], draws := []}) ⟨Tryz.func123, by kernel_rfl, by kernel_rfl⟩ ?_
  rintro _ K ⟨b, rfl, hz, hK⟩
  replace hK : ∀ r, r = .sl strV (linesOf b) → K r := fun r h => h ▸ hK
  repeat' (first | exact True.intro | refine ⟨_, LeL.refl _, ?_⟩ | refine ⟨_, _, _, LeL.refl _, ?_⟩ | (refine fun (b : Bool) hb => ?_; cases b <;> (first | exact absurd hb (by decide) | exact Bool.noConfusion (show true = false from hb) | exact Bool.noConfusion (show false = true from hb) | skip)) | (refine fun (hl : _ ≤ MAXL) => ?_) | refine And.intro (a := I64 _) ?_ ?_ | refine And.intro (a := _ ≤ 140737488355328) ?_ ?_ | refine ⟨_, ⟨rfl, rfl⟩, ?_⟩ | refine ⟨_, And.intro (a := I64 _) ?_ ⟨rfl, rfl⟩, ?_⟩ | refine ⟨_, _, ⟨rfl, rfl⟩, ?_⟩ | refine ⟨_, (fun _ => ⟨rfl, rfl⟩), ?_⟩ | refine And.intro (a := chkPend _ _ _ _ _ _) ?_ ?_ | refine And.intro (a := chkPast _ _ _ _ _ _ _ _) ?_ ?_ | refine ⟨⟨rfl, rfl⟩, ?_⟩ | refine And.intro (And.intro rfl rfl) ?_ | refine ⟨True.intro, ?_⟩ | refine ⟨_, ⟨_, rfl, ?_, rfl, rfl, rfl⟩, ?_⟩ | refine ⟨_, rfl, ?_, rfl, ?_⟩ | refine ⟨_, (fun _ => rfl), rfl, ?_⟩ | refine ⟨(fun _ => rfl), ?_⟩ | refine ⟨rfl, ?_⟩ | refine Opt.a ?_ | fail)
  refine ⟨b, rfl, hz, ?_⟩
  repeat' (first | exact True.intro | refine ⟨_, LeL.refl _, ?_⟩ | refine ⟨_, _, _, LeL.refl _, ?_⟩ | (refine fun (b : Bool) hb => ?_; cases b <;> (first | exact absurd hb (by decide) | exact Bool.noConfusion (show true = false from hb) | exact Bool.noConfusion (show false = true from hb) | skip)) | (refine fun (hl : _ ≤ MAXL) => ?_) | refine And.intro (a := I64 _) ?_ ?_ | refine And.intro (a := _ ≤ 140737488355328) ?_ ?_ | refine ⟨_, ⟨rfl, rfl⟩, ?_⟩ | refine ⟨_, And.intro (a := I64 _) ?_ ⟨rfl, rfl⟩, ?_⟩ | refine ⟨_, _, ⟨rfl, rfl⟩, ?_⟩ | refine ⟨_, (fun _ => ⟨rfl, rfl⟩), ?_⟩ | refine And.intro (a := chkPend _ _ _ _ _ _) ?_ ?_ | refine And.intro (a := chkPast _ _ _ _ _ _ _ _) ?_ ?_ | refine ⟨⟨rfl, rfl⟩, ?_⟩ | refine And.intro (And.intro rfl rfl) ?_ | refine ⟨True.intro, ?_⟩ | refine ⟨_, ⟨_, rfl, ?_, rfl, rfl, rfl⟩, ?_⟩ | refine ⟨_, rfl, ?_, rfl, ?_⟩ | refine ⟨_, (fun _ => rfl), rfl, ?_⟩ | refine ⟨(fun _ => rfl), ?_⟩ | refine ⟨rfl, ?_⟩ | refine Opt.a ?_ | fail)
  exact hK _ rfl
end Gv
namespace Gv
variable [Glob] [Laid]
theorem put_ca : callable Tryz.prog 97 = true := by kernel_rfl
def put_S : Spec := fun args K => ∃ l : List Bs, args = [.sl strV l] ∧ (put l).length ≤ 1000000 ∧ K (.sl byteV (put l))
noncomputable def put_lib : List (Nat × Spec) := []
noncomputable def put_fns : List (Nat × FnI) := []
noncomputable def put_prims : List (Nat × PSpec) := []
theorem put_E : EnvOK ⟨Tryz.prog, tys, put_lib, put_fns, put_prims, []⟩ := env_ok mixed0 tys0 .nil .nil .nil rfl
set_option maxHeartbeats 4000000 in
theorem put_ok : Pure Tryz.prog 97 put_S := by
  refine pure_by put_E 6 (fi := {fn := Tryz.f97, hooks := [], draws := []}) ⟨Tryz.func97, by kernel_rfl, by kernel_rfl⟩ ?_
  rintro _ K ⟨l, rfl, hb, hK⟩
  refine fun (hl : _ ≤ MAXL) => ?_
  conv => whnf
  refine loop_live [6, 7] (σ := Nat) (fun i => [(3, .own 0), (8, .int .i64 i)]) (fun i => [.row 1 ((put (l.take i)).map byteV)]) (fun i => i ≤ l.length) (fun i => l.length - i) 0 ?_
  conv => whnf
  refine ⟨(by (refine wk_sel [none] rfl rfl ?_ ?_ <;> (repeat' (first | exact True.intro | exact rfl | exact Or.inl rfl | exact Or.inr rfl | refine And.intro ?_ ?_ | fail)))), Nat.zero_le _, fun i hi => ?_⟩
  have h1 := put_take_le l i
  have h2 := put_take_le l (i + 1)
  repeat' (first | exact True.intro | refine ⟨_, LeL.refl _, ?_⟩ | refine ⟨_, _, _, LeL.refl _, ?_⟩ | (refine fun (b : Bool) hb => ?_; cases b <;> (first | exact absurd hb (by decide) | exact Bool.noConfusion (show true = false from hb) | exact Bool.noConfusion (show false = true from hb) | skip)) | (refine fun (hl : _ ≤ MAXL) => ?_) | refine And.intro (a := I64 _) ?_ ?_ | refine And.intro (a := _ ≤ 140737488355328) ?_ ?_ | refine ⟨_, ⟨rfl, rfl⟩, ?_⟩ | refine ⟨_, And.intro (a := I64 _) ?_ ⟨rfl, rfl⟩, ?_⟩ | refine ⟨_, _, ⟨rfl, rfl⟩, ?_⟩ | refine ⟨_, (fun _ => ⟨rfl, rfl⟩), ?_⟩ | refine And.intro (a := chkPend _ _ _ _ _ _) ?_ ?_ | refine And.intro (a := chkPast _ _ _ _ _ _ _ _) ?_ ?_ | refine ⟨⟨rfl, rfl⟩, ?_⟩ | refine And.intro (And.intro rfl rfl) ?_ | refine ⟨True.intro, ?_⟩ | refine ⟨_, ⟨_, rfl, ?_, rfl, rfl, rfl⟩, ?_⟩ | refine ⟨_, rfl, ?_, rfl, ?_⟩ | refine ⟨_, (fun _ => rfl), rfl, ?_⟩ | refine ⟨(fun _ => rfl), ?_⟩ | refine ⟨rfl, ?_⟩ | refine Opt.a ?_ | fail)
  · rw [List.take_of_length_le (by grind)]
    exact hK
  · grind
  · rw [put_take_succ (by grind)] at h2
    simp only [List.length_append, List.length_map, List.length_cons, List.length_nil, Nat.mul_one] at *
    omega
  · rw [put_take_succ (by grind)] at h2
    simp only [List.length_append, List.length_map, List.length_cons, List.length_nil, Nat.mul_one] at *
    omega
  · (first | omega | (unfold I64; omega) | (simp only [List.length_append, List.length_map, List.length_cons, List.length_nil, Nat.mul_one, Int.ofNat_eq_natCast] at *; omega) | (dsimp only at *; omega) | (unfold I64; dsimp only at *; omega) | (unfold I64; grind) | grind)
  · refine ⟨i + 1, ?_, by grind, by grind⟩
    refine wk_sel [some 3] rfl rfl ⟨?_, trivial⟩ ?_
    · rw [put_take_succ (by grind), List.map_append, List.map_append, ← List.append_assoc]
      exact rfl
    · (repeat' (first | exact True.intro | exact rfl | exact Or.inl rfl | exact Or.inr rfl | refine And.intro ?_ ?_ | fail))
end Gv
namespace Gv
variable [Glob] [Laid]
theorem gather_ca : callable Tryz.prog 85 = true := by kernel_rfl
def gather_S : Spec := fun args K => ∃ (l : List FileS) (f : List Bs), args = [.sl fileV l, .sl strV f] ∧ K (.tup [.sl byteV (gatherS l f).1, .int .i64 (gatherS l f).2])
noncomputable def gather_lib : List (Nat × Spec) := [(89, cfiles_S), (129, bytesF_S), (123, linesL_S), (97, put_S)]
noncomputable def gather_fns : List (Nat × FnI) := []
noncomputable def gather_prims : List (Nat × PSpec) := []
theorem gather_E : EnvOK ⟨Tryz.prog, tys, gather_lib, gather_fns, gather_prims, []⟩ := env_ok mixed0 tys0 (.cons cfiles_ca cfiles_ok (.cons bytesF_ca bytesF_ok (.cons linesL_ca linesL_ok (.cons put_ca put_ok .nil)))) .nil .nil rfl
set_option maxHeartbeats 8000000 in
theorem gather_ok : Pure Tryz.prog 85 gather_S := by
  refine pure_by gather_E 6 (fi := {fn := Tryz.f85, hooks := [], draws := []}) ⟨Tryz.func85, by kernel_rfl, by kernel_rfl⟩ ?_
  rintro _ K ⟨l, f, rfl, hK⟩
  replace hK : ∀ r, r = .tup [.sl byteV (gatherS l f).1, .int .i64 (gatherS l f).2] → K r := fun r h => h ▸ hK
  have hone : ∀ r : Bs × Int, gatherS l f = r → K (.tup [.sl byteV r.1, .int .i64 r.2]) := fun r h => hK _ (by rw [h])
  unfold gatherS at hone
  refine ⟨l, rfl, ?_⟩
  obtain ⟨e, he⟩ : ∃ e, checkFiles l = e := ⟨_, rfl⟩
  rw [he] at hone ⊢
  repeat' (first | exact True.intro | refine ⟨_, LeL.refl _, ?_⟩ | refine ⟨_, _, _, LeL.refl _, ?_⟩ | (refine fun (b : Bool) hb => ?_; cases b <;> (first | exact absurd hb (by decide) | exact Bool.noConfusion (show true = false from hb) | exact Bool.noConfusion (show false = true from hb) | skip)) | (refine fun (hl : _ ≤ MAXL) => ?_) | refine And.intro (a := I64 _) ?_ ?_ | refine And.intro (a := _ ≤ 140737488355328) ?_ ?_ | refine ⟨_, ⟨rfl, rfl⟩, ?_⟩ | refine ⟨_, And.intro (a := I64 _) ?_ ⟨rfl, rfl⟩, ?_⟩ | refine ⟨_, _, ⟨rfl, rfl⟩, ?_⟩ | refine ⟨_, (fun _ => ⟨rfl, rfl⟩), ?_⟩ | refine And.intro (a := chkPend _ _ _ _ _ _) ?_ ?_ | refine And.intro (a := chkPast _ _ _ _ _ _ _ _) ?_ ?_ | refine ⟨⟨rfl, rfl⟩, ?_⟩ | refine And.intro (And.intro rfl rfl) ?_ | refine ⟨True.intro, ?_⟩ | refine ⟨_, ⟨_, rfl, ?_, rfl, rfl, rfl⟩, ?_⟩ | refine ⟨_, rfl, ?_, rfl, ?_⟩ | refine ⟨_, (fun _ => rfl), rfl, ?_⟩ | refine ⟨(fun _ => rfl), ?_⟩ | refine ⟨rfl, ?_⟩ | refine Opt.a ?_ | fail)
  · have h0 : e = 0 := by
      have h : (!decide (e = 0)) = false := by assumption
      simpa using h
    subst h0
    have hf4 : ¬ (4 : Int) < (f.length : Int) := of_decide_eq_false (by assumption)
    rw [if_neg (by simp), if_neg (by omega)] at hone
    have hfb := (checkFiles_ok he).2
    have hwl : ∀ s, (whole (fileAt l s)).length ≤ 4001 := fun s => by
      have h1 := fileAt_len (fun f hf => (hfb f hf).2) s
      have h2 := whole_len (fileAt l s)
      omega
    repeat' (first | exact True.intro | refine ⟨_, LeL.refl _, ?_⟩ | refine ⟨_, _, _, LeL.refl _, ?_⟩ | (refine fun (b : Bool) hb => ?_; cases b <;> (first | exact absurd hb (by decide) | exact Bool.noConfusion (show true = false from hb) | exact Bool.noConfusion (show false = true from hb) | skip)) | (refine fun (hl : _ ≤ MAXL) => ?_) | refine And.intro (a := I64 _) ?_ ?_ | refine And.intro (a := _ ≤ 140737488355328) ?_ ?_ | refine ⟨_, ⟨rfl, rfl⟩, ?_⟩ | refine ⟨_, And.intro (a := I64 _) ?_ ⟨rfl, rfl⟩, ?_⟩ | refine ⟨_, _, ⟨rfl, rfl⟩, ?_⟩ | refine ⟨_, (fun _ => ⟨rfl, rfl⟩), ?_⟩ | refine And.intro (a := chkPend _ _ _ _ _ _) ?_ ?_ | refine And.intro (a := chkPast _ _ _ _ _ _ _ _) ?_ ?_ | refine ⟨⟨rfl, rfl⟩, ?_⟩ | refine And.intro (And.intro rfl rfl) ?_ | refine ⟨True.intro, ?_⟩ | refine ⟨_, ⟨_, rfl, ?_, rfl, rfl, rfl⟩, ?_⟩ | refine ⟨_, rfl, ?_, rfl, ?_⟩ | refine ⟨_, (fun _ => rfl), rfl, ?_⟩ | refine ⟨(fun _ => rfl), ?_⟩ | refine ⟨rfl, ?_⟩ | refine Opt.a ?_ | fail)
    conv => whnf
    refine loop_live [0, 19, 20] (σ := Nat × Bs) (fun s => [(21, .int .i64 s.1), (7, .own 0)]) (fun s => [.row 1 (s.2.map byteV)]) (fun s => s.1 ≤ f.length ∧ gatherGo l s.2 (f.drop s.1) = gatherGo l [] f ∧ s.2.length ≤ 4000) (fun s => f.length - s.1) (0, []) ?_
    conv => whnf
    refine ⟨(by (refine wk_auto ?_; refine Sel4.mk rfl rfl ?_ ?_ <;> (repeat' (first | exact True.intro | exact rfl | exact Or.inl rfl | exact Or.inr rfl | refine And.intro ?_ ?_ | fail)))), ⟨Nat.zero_le _, rfl, by simp⟩, fun s hs => ?_⟩
    obtain ⟨i, out⟩ := s
    obtain ⟨hi, hg, ho⟩ := hs
    dsimp only at hi hg ho
    repeat' (first | exact True.intro | refine ⟨_, LeL.refl _, ?_⟩ | refine ⟨_, _, _, LeL.refl _, ?_⟩ | (refine fun (b : Bool) hb => ?_; cases b <;> (first | exact absurd hb (by decide) | exact Bool.noConfusion (show true = false from hb) | exact Bool.noConfusion (show false = true from hb) | skip)) | (refine fun (hl : _ ≤ MAXL) => ?_) | refine And.intro (a := I64 _) ?_ ?_ | refine And.intro (a := _ ≤ 140737488355328) ?_ ?_ | refine ⟨_, ⟨rfl, rfl⟩, ?_⟩ | refine ⟨_, And.intro (a := I64 _) ?_ ⟨rfl, rfl⟩, ?_⟩ | refine ⟨_, _, ⟨rfl, rfl⟩, ?_⟩ | refine ⟨_, (fun _ => ⟨rfl, rfl⟩), ?_⟩ | refine And.intro (a := chkPend _ _ _ _ _ _) ?_ ?_ | refine And.intro (a := chkPast _ _ _ _ _ _ _ _) ?_ ?_ | refine ⟨⟨rfl, rfl⟩, ?_⟩ | refine And.intro (And.intro rfl rfl) ?_ | refine ⟨True.intro, ?_⟩ | refine ⟨_, ⟨_, rfl, ?_, rfl, rfl, rfl⟩, ?_⟩ | refine ⟨_, rfl, ?_, rfl, ?_⟩ | refine ⟨_, (fun _ => rfl), rfl, ?_⟩ | refine ⟨(fun _ => rfl), ?_⟩ | refine ⟨rfl, ?_⟩ | refine Opt.a ?_ | fail)
    · have hge : ¬ (i : Int) < (f.length : Int) := of_decide_eq_false (by assumption)
      have e : f.drop i = [] := List.drop_eq_nil_of_le (by omega)
      rw [e] at hg
      conv => whnf
      exact hone _ hg.symm
    · have h := of_decide_eq_true (by assumption : decide ((i : Int) < (f.length : Int)) = true)
      show i < f.length
      omega
    have hlt : i < f.length := by
      have h := of_decide_eq_true (by assumption : decide ((i : Int) < (f.length : Int)) = true)
      omega
    rw [List.drop_eq_getElem_cons hlt, gatherGo] at hg
    have hw := hwl f[i]
    refine ⟨l, f[i], rfl, fun g hgm => by have := (hfb g hgm).2; omega, ?_⟩
    refine ⟨fileAt l f[i], rfl, by have := fileAt_len (fun f hf => (hfb f hf).2) f[i]; omega, ?_⟩
    refine ⟨linesOf (fileAt l f[i]), rfl, by unfold whole at hw; omega, ?_⟩
    have hwe : put (linesOf (fileAt l f[i])) = whole (fileAt l f[i]) := rfl
    have hom : ((out.map byteV).length : Int) = (out.length : Int) := by rw [List.length_map]
    repeat' (first | exact True.intro | refine ⟨_, LeL.refl _, ?_⟩ | refine ⟨_, _, _, LeL.refl _, ?_⟩ | (refine fun (b : Bool) hb => ?_; cases b <;> (first | exact absurd hb (by decide) | exact Bool.noConfusion (show true = false from hb) | exact Bool.noConfusion (show false = true from hb) | skip)) | (refine fun (hl : _ ≤ MAXL) => ?_) | refine And.intro (a := I64 _) ?_ ?_ | refine And.intro (a := _ ≤ 140737488355328) ?_ ?_ | refine ⟨_, ⟨rfl, rfl⟩, ?_⟩ | refine ⟨_, And.intro (a := I64 _) ?_ ⟨rfl, rfl⟩, ?_⟩ | refine ⟨_, _, ⟨rfl, rfl⟩, ?_⟩ | refine ⟨_, (fun _ => ⟨rfl, rfl⟩), ?_⟩ | refine And.intro (a := chkPend _ _ _ _ _ _) ?_ ?_ | refine And.intro (a := chkPast _ _ _ _ _ _ _ _) ?_ ?_ | refine ⟨⟨rfl, rfl⟩, ?_⟩ | refine And.intro (And.intro rfl rfl) ?_ | refine ⟨True.intro, ?_⟩ | refine ⟨_, ⟨_, rfl, ?_, rfl, rfl, rfl⟩, ?_⟩ | refine ⟨_, rfl, ?_, rfl, ?_⟩ | refine ⟨_, (fun _ => rfl), rfl, ?_⟩ | refine ⟨(fun _ => rfl), ?_⟩ | refine ⟨rfl, ?_⟩ | refine Opt.a ?_ | fail)
    · show I64 (4000 - ((out.map byteV).length : Int))
      rw [hom]
      unfold I64; omega
    · show ((out.map byteV).length + ((put (linesOf (fileAt l f[i]))).map byteV).length) * 1 ≤ 140737488355328
      rw [List.length_map, List.length_map, hwe]
      omega
    · unfold I64
      dsimp only
      omega
    · have h : ¬ ((4000 : Int) - ((out.map byteV).length : Int) < ((put (linesOf (fileAt l f[i]))).length : Int)) := of_decide_eq_false (by assumption)
      rw [hom, hwe] at h
      rw [if_neg (by omega)] at hg
      refine ⟨(i + 1, out ++ whole (fileAt l f[i])), ?_, ⟨hlt, hg, by show (out ++ _).length ≤ 4000; rw [List.length_append]; omega⟩, by show f.length - (i + 1) < f.length - i; omega⟩
      (refine wk_auto ?_; refine Sel4.mk rfl rfl ?_ ?_ <;> (repeat' (first | exact True.intro | exact rfl | exact Or.inl rfl | exact Or.inr rfl | refine And.intro ?_ ?_ | fail)))
      show Row.row 1 _ = Row.row 1 _
      rw [List.map_append]
      rfl
    · have h : ((4000 : Int) - ((out.map byteV).length : Int) < ((put (linesOf (fileAt l f[i]))).length : Int)) := of_decide_eq_true (by assumption)
      rw [hom, hwe] at h
      rw [if_pos (by omega)] at hg
      repeat' (first | exact True.intro | refine ⟨_, LeL.refl _, ?_⟩ | refine ⟨_, _, _, LeL.refl _, ?_⟩ | (refine fun (b : Bool) hb => ?_; cases b <;> (first | exact absurd hb (by decide) | exact Bool.noConfusion (show true = false from hb) | exact Bool.noConfusion (show false = true from hb) | skip)) | (refine fun (hl : _ ≤ MAXL) => ?_) | refine And.intro (a := I64 _) ?_ ?_ | refine And.intro (a := _ ≤ 140737488355328) ?_ ?_ | refine ⟨_, ⟨rfl, rfl⟩, ?_⟩ | refine ⟨_, And.intro (a := I64 _) ?_ ⟨rfl, rfl⟩, ?_⟩ | refine ⟨_, _, ⟨rfl, rfl⟩, ?_⟩ | refine ⟨_, (fun _ => ⟨rfl, rfl⟩), ?_⟩ | refine And.intro (a := chkPend _ _ _ _ _ _) ?_ ?_ | refine And.intro (a := chkPast _ _ _ _ _ _ _ _) ?_ ?_ | refine ⟨⟨rfl, rfl⟩, ?_⟩ | refine And.intro (And.intro rfl rfl) ?_ | refine ⟨True.intro, ?_⟩ | refine ⟨_, ⟨_, rfl, ?_, rfl, rfl, rfl⟩, ?_⟩ | refine ⟨_, rfl, ?_, rfl, ?_⟩ | refine ⟨_, (fun _ => rfl), rfl, ?_⟩ | refine ⟨(fun _ => rfl), ?_⟩ | refine ⟨rfl, ?_⟩ | refine Opt.a ?_ | fail)
      refine ⟨_, byteV, hone _ hg.symm⟩
  · have h0 : e = 0 := by
      have h : (!decide (e = 0)) = false := by assumption
      simpa using h
    subst h0
    have hf4 : (4 : Int) < (f.length : Int) := of_decide_eq_true (by assumption)
    rw [if_neg (by simp), if_pos (by omega)] at hone
    repeat' (first | exact True.intro | refine ⟨_, LeL.refl _, ?_⟩ | refine ⟨_, _, _, LeL.refl _, ?_⟩ | (refine fun (b : Bool) hb => ?_; cases b <;> (first | exact absurd hb (by decide) | exact Bool.noConfusion (show true = false from hb) | exact Bool.noConfusion (show false = true from hb) | skip)) | (refine fun (hl : _ ≤ MAXL) => ?_) | refine And.intro (a := I64 _) ?_ ?_ | refine And.intro (a := _ ≤ 140737488355328) ?_ ?_ | refine ⟨_, ⟨rfl, rfl⟩, ?_⟩ | refine ⟨_, And.intro (a := I64 _) ?_ ⟨rfl, rfl⟩, ?_⟩ | refine ⟨_, _, ⟨rfl, rfl⟩, ?_⟩ | refine ⟨_, (fun _ => ⟨rfl, rfl⟩), ?_⟩ | refine And.intro (a := chkPend _ _ _ _ _ _) ?_ ?_ | refine And.intro (a := chkPast _ _ _ _ _ _ _ _) ?_ ?_ | refine ⟨⟨rfl, rfl⟩, ?_⟩ | refine And.intro (And.intro rfl rfl) ?_ | refine ⟨True.intro, ?_⟩ | refine ⟨_, ⟨_, rfl, ?_, rfl, rfl, rfl⟩, ?_⟩ | refine ⟨_, rfl, ?_, rfl, ?_⟩ | refine ⟨_, (fun _ => rfl), rfl, ?_⟩ | refine ⟨(fun _ => rfl), ?_⟩ | refine ⟨rfl, ?_⟩ | refine Opt.a ?_ | fail)
    exact ⟨_, byteV, hone _ rfl⟩
  · have h0 : ¬ e = 0 := by
      have h : (!decide (e = 0)) = true := by assumption
      simpa using h
    rw [if_pos h0] at hone
    repeat' (first | exact True.intro | refine ⟨_, LeL.refl _, ?_⟩ | refine ⟨_, _, _, LeL.refl _, ?_⟩ | (refine fun (b : Bool) hb => ?_; cases b <;> (first | exact absurd hb (by decide) | exact Bool.noConfusion (show true = false from hb) | exact Bool.noConfusion (show false = true from hb) | skip)) | (refine fun (hl : _ ≤ MAXL) => ?_) | refine And.intro (a := I64 _) ?_ ?_ | refine And.intro (a := _ ≤ 140737488355328) ?_ ?_ | refine ⟨_, ⟨rfl, rfl⟩, ?_⟩ | refine ⟨_, And.intro (a := I64 _) ?_ ⟨rfl, rfl⟩, ?_⟩ | refine ⟨_, _, ⟨rfl, rfl⟩, ?_⟩ | refine ⟨_, (fun _ => ⟨rfl, rfl⟩), ?_⟩ | refine And.intro (a := chkPend _ _ _ _ _ _) ?_ ?_ | refine And.intro (a := chkPast _ _ _ _ _ _ _ _) ?_ ?_ | refine ⟨⟨rfl, rfl⟩, ?_⟩ | refine And.intro (And.intro rfl rfl) ?_ | refine ⟨True.intro, ?_⟩ | refine ⟨_, ⟨_, rfl, ?_, rfl, rfl, rfl⟩, ?_⟩ | refine ⟨_, rfl, ?_, rfl, ?_⟩ | refine ⟨_, (fun _ => rfl), rfl, ?_⟩ | refine ⟨(fun _ => rfl), ?_⟩ | refine ⟨rfl, ?_⟩ | refine Opt.a ?_ | fail)
    exact ⟨_, byteV, hone _ rfl⟩
end Gv
namespace Gv
variable [Glob] [Laid]
theorem containsS_ca : callable Tryz.prog 104 = true := by kernel_rfl
def containsS_S : Spec := fun args K => ∃ (s sub : Bs), args = [.str s, .str sub] ∧ s.length < 4294967281 ∧ K (.bool (Lib.contains s sub))
set_option maxHeartbeats 4000000 in
theorem containsS_ok : Pure Tryz.prog 104 containsS_S := by
  intro w m args us K hm hg hv hT
  obtain ⟨s, sub, rfl, h1, hK⟩ := hT
  obtain ⟨a, b, rfl, ha, hb⟩ := args2 hv.1 hv.2
  obtain ⟨rfl, -⟩ := vr_str ha
  obtain ⟨rfl, -⟩ := vr_str hb
  obtain ⟨n, hn⟩ := Laid.maxlen w (fun b o e => hm b o (hg b o e))
  refine (Tryz.strings_Contains (ba s) (ba sub) n w (by rw [ba_size]; exact h1) hn).mono fun e w' ⟨he, hw⟩ => ?_
  subst hw
  exact ⟨_, _, he, Bel.refl _ _, hK, .bool⟩
end Gv
namespace Gv
variable [Glob] [Laid]
theorem replaceS_ca : callable Tryz.prog 229 = true := by kernel_rfl
def replaceS_S : Spec := fun args K => ∃ (s old new : Bs), args = [.str s, .str old, .str new] ∧ (s.length < 4294967281 ∧ 1 ≤ old.length ∧ s.length + Lib.count s old * new.length ≤ 140737488355328 ∧ (Lib.replaceAll s old new).length ≤ MAXL) ∧ K (.str (Lib.replaceAll s old new))
set_option maxHeartbeats 4000000 in
theorem replaceS_ok : Pure Tryz.prog 229 replaceS_S := by
  intro w m args us K hm hg hv hT
  obtain ⟨s, old, new, rfl, ⟨h1, h2, h3, h4⟩, hK⟩ := hT
  obtain ⟨a, b, c, rfl, ha, hb, hc⟩ := args3 hv.1 hv.2
  obtain ⟨rfl, -⟩ := vr_str ha
  obtain ⟨rfl, -⟩ := vr_str hb
  obtain ⟨rfl, -⟩ := vr_str hc
  obtain ⟨n, hn⟩ := Laid.maxlen w (fun b o e => hm b o (hg b o e))
  refine (Tryz.strings_ReplaceAll (ba s) (ba old) (ba new) n w (by rw [ba_size]; exact h1) hn (by rw [ba_size]; exact h2) (by rw [ba_size, ba_size]; exact h3)).mono fun e w' ⟨he, hw⟩ => ?_
  exact ⟨_, _, he, Bel.of_below hw, hK, .str h4⟩
end Gv
namespace Gv
variable [Glob] [Laid]
theorem splitS_ca : callable Tryz.prog 105 = true := by kernel_rfl
def splitS_S : Spec := fun args K => ∃ (s sep : Bs), args = [.str s, .str sep] ∧ (s.length < 4294967281 ∧ 1 ≤ sep.length) ∧ K (.sl strV (Lib.split s sep))
set_option maxHeartbeats 4000000 in
theorem splitS_ok : Pure Tryz.prog 105 splitS_S := by
  intro w m args us K hm hg hv hT
  obtain ⟨s, sep, rfl, ⟨h1, h2⟩, hK⟩ := hT
  obtain ⟨a, b, rfl, ha, hb⟩ := args2 hv.1 hv.2
  obtain ⟨rfl, -⟩ := vr_str ha
  obtain ⟨rfl, -⟩ := vr_str hb
  obtain ⟨n, hn⟩ := Laid.maxlen w (fun b o e => hm b o (hg b o e))
  refine (Tryz.strings_Split (ba s) (ba sep) n w (by rw [ba_size]; exact h1) hn (by rw [ba_size]; exact h2)).mono fun e w' ⟨he, hw⟩ => ?_
  subst hw
  rw [split_cells] at *
  have hc : Lib.countB (ba s) (ba sep) + 1 = (Lib.split s sep).length := (split_len s sep h2).symm
  have hle : (Lib.split s sep).length ≤ s.length + 2 := by
    rw [← hc]
    have := Lib.count_le s sep
    show Lib.count s sep + 1 ≤ _
    omega
  refine ⟨_, _, by rw [he, hc], Bel.alloc [] w _, hK, strs_new (Gw.heap_alloc_new w _) (by unfold MAXL; omega) fun x hx => ?_⟩
  have := splitK_le sep _ s x hx
  unfold MAXL
  omega
end Gv
namespace Gv
variable [Glob] [Laid]
def swp (l : Bs) (i : Nat) : Bs := (List.range l.length).map fun k => if k < i ∨ l.length - 1 - k < i then l.getD (l.length - 1 - k) 0 else l.getD k 0
theorem swp_len (l : Bs) (i : Nat) : (swp l i).length = l.length := by simp [swp]
theorem swp_0 (l : Bs) : swp l 0 = l := by
  refine List.ext_getElem (by simp [swp]) fun i h1 h2 => ?_
  simp [swp, h2]
theorem swp_end (l : Bs) (i : Nat) (h : l.length ≤ 2 * i + 1) : swp l i = l.reverse := by
  refine List.ext_getElem (by simp [swp]) fun k h1 h2 => ?_
  have hk : k < l.length := by simpa using h2
  simp only [swp, List.getElem_map, List.getElem_range, List.getElem_reverse]
  by_cases hc : k < i ∨ l.length - 1 - k < i
  · rw [if_pos hc, List.getD_eq_getElem?_getD, List.getElem?_eq_getElem (by omega)]
    rfl
  · rw [if_neg hc, List.getD_eq_getElem?_getD, List.getElem?_eq_getElem hk]
    have e : l.length - 1 - k = k := by omega
    simp only [e]
    rfl
theorem swp_next (l : Bs) (i : Nat) (h : 2 * i + 1 < l.length) : ((swp l i).set i (l.getD (l.length - 1 - i) 0)).set (l.length - 1 - i) (l.getD i 0) = swp l (i + 1) := by
  refine List.ext_getElem (by simp [swp]) fun k h1 h2 => ?_
  have hk : k < l.length := by simpa [swp] using h2
  rw [List.getElem_set, List.getElem_set]
  simp only [swp, List.getElem_map, List.getElem_range]
  by_cases e1 : l.length - 1 - i = k
  · rw [if_pos e1, if_pos (by omega)]
    have : l.length - 1 - k = i := by omega
    rw [this]
  · rw [if_neg e1]
    by_cases e2 : i = k
    · rw [if_pos e2, if_pos (by omega), e2]
    · rw [if_neg e2]
      by_cases hc : k < i ∨ l.length - 1 - k < i
      · rw [if_pos hc, if_pos (by omega)]
      · rw [if_neg hc, if_neg (by omega)]
theorem swp_at (l : Bs) (i k : Nat) (hk : k < l.length) (h : ¬ (k < i ∨ l.length - 1 - k < i)) : (swp l i)[k]? = some (l.getD k 0) := by
  unfold swp
  rw [List.getElem?_map, List.getElem?_range hk]
  simp only [Option.map_some]
  rw [if_neg h]
theorem revB_ca : callable Tryz.prog 230 = true := by kernel_rfl
def revB_P : PSpec := fun args rows K => ∃ (l : Bs), args = [.own 0] ∧ rows = [.row 1 (l.map byteV)] ∧ l.length ≤ 1000000 ∧ K (.tup []) [.row 1 (l.reverse.map byteV)]
noncomputable def revB_lib : List (Nat × Spec) := []
noncomputable def revB_fns : List (Nat × FnI) := []
noncomputable def revB_prims : List (Nat × PSpec) := []
theorem revB_E : EnvOK ⟨Tryz.prog, tys, revB_lib, revB_fns, revB_prims, []⟩ := env_ok mixed0 tys0 .nil .nil .nil rfl
set_option maxHeartbeats 4000000 in
theorem revB_prim : PrimOK Tryz.prog 230 revB_P := by
  refine prim_by revB_E 6 revB_ca (fi := {fn := Tryz.f230, hooks := [], draws := [(3, [0, 0, 0, 0, 0, 0, 48, 112, 0, 0, 768, 1792, 4083, 8179, 16383, 32767])]}) ⟨Tryz.func230, by kernel_rfl, by kernel_rfl⟩ ?_
  rintro args rows K ⟨l, rfl, rfl, hz, hK⟩
  repeat' (first | exact True.intro | refine ⟨_, LeL.refl _, ?_⟩ | refine ⟨_, _, _, LeL.refl _, ?_⟩ | (refine fun (b : Bool) hb => ?_; cases b <;> (first | exact absurd hb (by decide) | exact Bool.noConfusion (show true = false from hb) | exact Bool.noConfusion (show false = true from hb) | skip)) | (refine fun (hl : _ ≤ MAXL) => ?_) | refine And.intro (a := I64 _) ?_ ?_ | refine And.intro (a := _ ≤ 140737488355328) ?_ ?_ | refine ⟨_, ⟨rfl, rfl⟩, ?_⟩ | refine ⟨_, And.intro (a := I64 _) ?_ ⟨rfl, rfl⟩, ?_⟩ | refine ⟨_, _, ⟨rfl, rfl⟩, ?_⟩ | refine ⟨_, (fun _ => ⟨rfl, rfl⟩), ?_⟩ | refine And.intro (a := chkPend _ _ _ _ _ _) ?_ ?_ | refine And.intro (a := chkPast _ _ _ _ _ _ _ _) ?_ ?_ | refine ⟨⟨rfl, rfl⟩, ?_⟩ | refine And.intro (And.intro rfl rfl) ?_ | refine ⟨True.intro, ?_⟩ | refine ⟨_, ⟨_, rfl, ?_, rfl, rfl, rfl⟩, ?_⟩ | refine ⟨_, rfl, ?_, rfl, ?_⟩ | refine ⟨_, (fun _ => rfl), rfl, ?_⟩ | refine ⟨(fun _ => rfl), ?_⟩ | refine ⟨rfl, ?_⟩ | refine Opt.a ?_ | fail)
  · (first | omega | (unfold I64; omega) | (simp only [List.length_append, List.length_map, List.length_cons, List.length_nil, Nat.mul_one, Int.ofNat_eq_natCast] at *; omega) | (dsimp only at *; omega) | (unfold I64; dsimp only at *; omega) | (unfold I64; grind) | grind)
  conv => whnf
  refine loop_live [0] (σ := Nat × Int × Bs) (fun s => [(2, .int .i64 s.1), (3, .int .i64 s.2.1)]) (fun s => [.row 1 (s.2.2.map byteV)]) (fun s => s.2.1 = (l.length : Int) - 1 - s.1 ∧ s.2.2 = swp l s.1 ∧ 2 * s.1 ≤ l.length + 1) (fun s => l.length + 1 - s.1) (0, ((l.map byteV).length : Int) - 1, l) ?_
  conv => whnf
  refine ⟨(by (refine wk_auto ?_; refine Sel4.mk rfl rfl ?_ ?_ <;> (repeat' (first | exact True.intro | exact rfl | exact Or.inl rfl | exact Or.inr rfl | refine And.intro ?_ ?_ | fail)))), ⟨by simp, (swp_0 l).symm, by omega⟩, fun s hs => ?_⟩
  obtain ⟨i, j, d⟩ := s
  obtain ⟨hj, hd, hi⟩ := hs
  dsimp only at hj hd hi
  have hdl : d.length = l.length := by rw [hd, swp_len]
  repeat' (first | exact True.intro | refine ⟨_, LeL.refl _, ?_⟩ | refine ⟨_, _, _, LeL.refl _, ?_⟩ | (refine fun (b : Bool) hb => ?_; cases b <;> (first | exact absurd hb (by decide) | exact Bool.noConfusion (show true = false from hb) | exact Bool.noConfusion (show false = true from hb) | skip)) | (refine fun (hl : _ ≤ MAXL) => ?_) | refine And.intro (a := I64 _) ?_ ?_ | refine And.intro (a := _ ≤ 140737488355328) ?_ ?_ | refine ⟨_, ⟨rfl, rfl⟩, ?_⟩ | refine ⟨_, And.intro (a := I64 _) ?_ ⟨rfl, rfl⟩, ?_⟩ | refine ⟨_, _, ⟨rfl, rfl⟩, ?_⟩ | refine ⟨_, (fun _ => ⟨rfl, rfl⟩), ?_⟩ | refine And.intro (a := chkPend _ _ _ _ _ _) ?_ ?_ | refine And.intro (a := chkPast _ _ _ _ _ _ _ _) ?_ ?_ | refine ⟨⟨rfl, rfl⟩, ?_⟩ | refine And.intro (And.intro rfl rfl) ?_ | refine ⟨True.intro, ?_⟩ | refine ⟨_, ⟨_, rfl, ?_, rfl, rfl, rfl⟩, ?_⟩ | refine ⟨_, rfl, ?_, rfl, ?_⟩ | refine ⟨_, (fun _ => rfl), rfl, ?_⟩ | refine ⟨(fun _ => rfl), ?_⟩ | refine ⟨rfl, ?_⟩ | refine Opt.a ?_ | fail)
  · have hij : ¬ (i : Int) < j := of_decide_eq_false (by assumption)
    have : d = l.reverse := by rw [hd, swp_end _ _ (by omega)]
    rw [this]
    conv => whnf
    exact hK
  have hij : (i : Int) < j := of_decide_eq_true (by assumption)
  obtain ⟨k, hk⟩ : ∃ k : Nat, j = k := ⟨j.toNat, by omega⟩
  subst hk
  have hkl : k < d.length := by omega
  have hil : i < d.length := by omega
  have gk : (List.map byteV d)[k]? = some (byteV d[k]) := by rw [List.getElem?_map, List.getElem?_eq_getElem hkl]; rfl
  have gi : (List.map byteV d)[i]? = some (byteV d[i]) := by rw [List.getElem?_map, List.getElem?_eq_getElem hil]; rfl
  refine ⟨_, ⟨rfl, k, rfl, by simpa using hkl, ⟨rfl, rfl⟩⟩, ?_⟩
  repeat' (first | exact True.intro | refine ⟨_, LeL.refl _, ?_⟩ | refine ⟨_, _, _, LeL.refl _, ?_⟩ | (refine fun (b : Bool) hb => ?_; cases b <;> (first | exact absurd hb (by decide) | exact Bool.noConfusion (show true = false from hb) | exact Bool.noConfusion (show false = true from hb) | skip)) | (refine fun (hl : _ ≤ MAXL) => ?_) | refine And.intro (a := I64 _) ?_ ?_ | refine And.intro (a := _ ≤ 140737488355328) ?_ ?_ | refine ⟨_, ⟨rfl, rfl⟩, ?_⟩ | refine ⟨_, And.intro (a := I64 _) ?_ ⟨rfl, rfl⟩, ?_⟩ | refine ⟨_, _, ⟨rfl, rfl⟩, ?_⟩ | refine ⟨_, (fun _ => ⟨rfl, rfl⟩), ?_⟩ | refine And.intro (a := chkPend _ _ _ _ _ _) ?_ ?_ | refine And.intro (a := chkPast _ _ _ _ _ _ _ _) ?_ ?_ | refine ⟨⟨rfl, rfl⟩, ?_⟩ | refine And.intro (And.intro rfl rfl) ?_ | refine ⟨True.intro, ?_⟩ | refine ⟨_, ⟨_, rfl, ?_, rfl, rfl, rfl⟩, ?_⟩ | refine ⟨_, rfl, ?_, rfl, ?_⟩ | refine ⟨_, (fun _ => rfl), rfl, ?_⟩ | refine ⟨(fun _ => rfl), ?_⟩ | refine ⟨rfl, ?_⟩ | refine Opt.a ?_ | fail)
  conv => whnf
  refine ⟨_, ⟨_, gk, ⟨rfl, rfl⟩⟩, ?_⟩
  repeat' (first | exact True.intro | refine ⟨_, LeL.refl _, ?_⟩ | refine ⟨_, _, _, LeL.refl _, ?_⟩ | (refine fun (b : Bool) hb => ?_; cases b <;> (first | exact absurd hb (by decide) | exact Bool.noConfusion (show true = false from hb) | exact Bool.noConfusion (show false = true from hb) | skip)) | (refine fun (hl : _ ≤ MAXL) => ?_) | refine And.intro (a := I64 _) ?_ ?_ | refine And.intro (a := _ ≤ 140737488355328) ?_ ?_ | refine ⟨_, ⟨rfl, rfl⟩, ?_⟩ | refine ⟨_, And.intro (a := I64 _) ?_ ⟨rfl, rfl⟩, ?_⟩ | refine ⟨_, _, ⟨rfl, rfl⟩, ?_⟩ | refine ⟨_, (fun _ => ⟨rfl, rfl⟩), ?_⟩ | refine And.intro (a := chkPend _ _ _ _ _ _) ?_ ?_ | refine And.intro (a := chkPast _ _ _ _ _ _ _ _) ?_ ?_ | refine ⟨⟨rfl, rfl⟩, ?_⟩ | refine And.intro (And.intro rfl rfl) ?_ | refine ⟨True.intro, ?_⟩ | refine ⟨_, ⟨_, rfl, ?_, rfl, rfl, rfl⟩, ?_⟩ | refine ⟨_, rfl, ?_, rfl, ?_⟩ | refine ⟨_, (fun _ => rfl), rfl, ?_⟩ | refine ⟨(fun _ => rfl), ?_⟩ | refine ⟨rfl, ?_⟩ | refine Opt.a ?_ | fail)
  conv => whnf
  refine ⟨_, ⟨rfl, i, rfl, by simpa using hil, ⟨rfl, rfl⟩⟩, ?_⟩
  repeat' (first | exact True.intro | refine ⟨_, LeL.refl _, ?_⟩ | refine ⟨_, _, _, LeL.refl _, ?_⟩ | (refine fun (b : Bool) hb => ?_; cases b <;> (first | exact absurd hb (by decide) | exact Bool.noConfusion (show true = false from hb) | exact Bool.noConfusion (show false = true from hb) | skip)) | (refine fun (hl : _ ≤ MAXL) => ?_) | refine And.intro (a := I64 _) ?_ ?_ | refine And.intro (a := _ ≤ 140737488355328) ?_ ?_ | refine ⟨_, ⟨rfl, rfl⟩, ?_⟩ | refine ⟨_, And.intro (a := I64 _) ?_ ⟨rfl, rfl⟩, ?_⟩ | refine ⟨_, _, ⟨rfl, rfl⟩, ?_⟩ | refine ⟨_, (fun _ => ⟨rfl, rfl⟩), ?_⟩ | refine And.intro (a := chkPend _ _ _ _ _ _) ?_ ?_ | refine And.intro (a := chkPast _ _ _ _ _ _ _ _) ?_ ?_ | refine ⟨⟨rfl, rfl⟩, ?_⟩ | refine And.intro (And.intro rfl rfl) ?_ | refine ⟨True.intro, ?_⟩ | refine ⟨_, ⟨_, rfl, ?_, rfl, rfl, rfl⟩, ?_⟩ | refine ⟨_, rfl, ?_, rfl, ?_⟩ | refine ⟨_, (fun _ => rfl), rfl, ?_⟩ | refine ⟨(fun _ => rfl), ?_⟩ | refine ⟨rfl, ?_⟩ | refine Opt.a ?_ | fail)
  conv => whnf
  refine ⟨_, ⟨_, gi, ⟨rfl, rfl⟩⟩, ?_⟩
  repeat' (first | exact True.intro | refine ⟨_, LeL.refl _, ?_⟩ | refine ⟨_, _, _, LeL.refl _, ?_⟩ | (refine fun (b : Bool) hb => ?_; cases b <;> (first | exact absurd hb (by decide) | exact Bool.noConfusion (show true = false from hb) | exact Bool.noConfusion (show false = true from hb) | skip)) | (refine fun (hl : _ ≤ MAXL) => ?_) | refine And.intro (a := I64 _) ?_ ?_ | refine And.intro (a := _ ≤ 140737488355328) ?_ ?_ | refine ⟨_, ⟨rfl, rfl⟩, ?_⟩ | refine ⟨_, And.intro (a := I64 _) ?_ ⟨rfl, rfl⟩, ?_⟩ | refine ⟨_, _, ⟨rfl, rfl⟩, ?_⟩ | refine ⟨_, (fun _ => ⟨rfl, rfl⟩), ?_⟩ | refine And.intro (a := chkPend _ _ _ _ _ _) ?_ ?_ | refine And.intro (a := chkPast _ _ _ _ _ _ _ _) ?_ ?_ | refine ⟨⟨rfl, rfl⟩, ?_⟩ | refine And.intro (And.intro rfl rfl) ?_ | refine ⟨True.intro, ?_⟩ | refine ⟨_, ⟨_, rfl, ?_, rfl, rfl, rfl⟩, ?_⟩ | refine ⟨_, rfl, ?_, rfl, ?_⟩ | refine ⟨_, (fun _ => rfl), rfl, ?_⟩ | refine ⟨(fun _ => rfl), ?_⟩ | refine ⟨rfl, ?_⟩ | refine Opt.a ?_ | fail)
  conv => whnf
  refine ⟨_, ⟨rfl, i, rfl, by simpa using hil, ⟨rfl, rfl⟩⟩, ?_⟩
  repeat' (first | exact True.intro | refine ⟨_, LeL.refl _, ?_⟩ | refine ⟨_, _, _, LeL.refl _, ?_⟩ | (refine fun (b : Bool) hb => ?_; cases b <;> (first | exact absurd hb (by decide) | exact Bool.noConfusion (show true = false from hb) | exact Bool.noConfusion (show false = true from hb) | skip)) | (refine fun (hl : _ ≤ MAXL) => ?_) | refine And.intro (a := I64 _) ?_ ?_ | refine And.intro (a := _ ≤ 140737488355328) ?_ ?_ | refine ⟨_, ⟨rfl, rfl⟩, ?_⟩ | refine ⟨_, And.intro (a := I64 _) ?_ ⟨rfl, rfl⟩, ?_⟩ | refine ⟨_, _, ⟨rfl, rfl⟩, ?_⟩ | refine ⟨_, (fun _ => ⟨rfl, rfl⟩), ?_⟩ | refine And.intro (a := chkPend _ _ _ _ _ _) ?_ ?_ | refine And.intro (a := chkPast _ _ _ _ _ _ _ _) ?_ ?_ | refine ⟨⟨rfl, rfl⟩, ?_⟩ | refine And.intro (And.intro rfl rfl) ?_ | refine ⟨True.intro, ?_⟩ | refine ⟨_, ⟨_, rfl, ?_, rfl, rfl, rfl⟩, ?_⟩ | refine ⟨_, rfl, ?_, rfl, ?_⟩ | refine ⟨_, (fun _ => rfl), rfl, ?_⟩ | refine ⟨(fun _ => rfl), ?_⟩ | refine ⟨rfl, ?_⟩ | refine Opt.a ?_ | fail)
  refine ⟨_, _, ⟨by simpa using hil, rfl, rfl⟩, ?_⟩
  repeat' (first | exact True.intro | refine ⟨_, LeL.refl _, ?_⟩ | refine ⟨_, _, _, LeL.refl _, ?_⟩ | (refine fun (b : Bool) hb => ?_; cases b <;> (first | exact absurd hb (by decide) | exact Bool.noConfusion (show true = false from hb) | exact Bool.noConfusion (show false = true from hb) | skip)) | (refine fun (hl : _ ≤ MAXL) => ?_) | refine And.intro (a := I64 _) ?_ ?_ | refine And.intro (a := _ ≤ 140737488355328) ?_ ?_ | refine ⟨_, ⟨rfl, rfl⟩, ?_⟩ | refine ⟨_, And.intro (a := I64 _) ?_ ⟨rfl, rfl⟩, ?_⟩ | refine ⟨_, _, ⟨rfl, rfl⟩, ?_⟩ | refine ⟨_, (fun _ => ⟨rfl, rfl⟩), ?_⟩ | refine And.intro (a := chkPend _ _ _ _ _ _) ?_ ?_ | refine And.intro (a := chkPast _ _ _ _ _ _ _ _) ?_ ?_ | refine ⟨⟨rfl, rfl⟩, ?_⟩ | refine And.intro (And.intro rfl rfl) ?_ | refine ⟨True.intro, ?_⟩ | refine ⟨_, ⟨_, rfl, ?_, rfl, rfl, rfl⟩, ?_⟩ | refine ⟨_, rfl, ?_, rfl, ?_⟩ | refine ⟨_, (fun _ => rfl), rfl, ?_⟩ | refine ⟨(fun _ => rfl), ?_⟩ | refine ⟨rfl, ?_⟩ | refine Opt.a ?_ | fail)
  conv => whnf
  refine ⟨_, ⟨rfl, k, rfl, by simpa using hkl, ⟨rfl, rfl⟩⟩, ?_⟩
  repeat' (first | exact True.intro | refine ⟨_, LeL.refl _, ?_⟩ | refine ⟨_, _, _, LeL.refl _, ?_⟩ | (refine fun (b : Bool) hb => ?_; cases b <;> (first | exact absurd hb (by decide) | exact Bool.noConfusion (show true = false from hb) | exact Bool.noConfusion (show false = true from hb) | skip)) | (refine fun (hl : _ ≤ MAXL) => ?_) | refine And.intro (a := I64 _) ?_ ?_ | refine And.intro (a := _ ≤ 140737488355328) ?_ ?_ | refine ⟨_, ⟨rfl, rfl⟩, ?_⟩ | refine ⟨_, And.intro (a := I64 _) ?_ ⟨rfl, rfl⟩, ?_⟩ | refine ⟨_, _, ⟨rfl, rfl⟩, ?_⟩ | refine ⟨_, (fun _ => ⟨rfl, rfl⟩), ?_⟩ | refine And.intro (a := chkPend _ _ _ _ _ _) ?_ ?_ | refine And.intro (a := chkPast _ _ _ _ _ _ _ _) ?_ ?_ | refine ⟨⟨rfl, rfl⟩, ?_⟩ | refine And.intro (And.intro rfl rfl) ?_ | refine ⟨True.intro, ?_⟩ | refine ⟨_, ⟨_, rfl, ?_, rfl, rfl, rfl⟩, ?_⟩ | refine ⟨_, rfl, ?_, rfl, ?_⟩ | refine ⟨_, (fun _ => rfl), rfl, ?_⟩ | refine ⟨(fun _ => rfl), ?_⟩ | refine ⟨rfl, ?_⟩ | refine Opt.a ?_ | fail)
  conv => whnf
  refine ⟨_, _, ⟨by simpa using hkl, rfl, rfl⟩, ?_⟩
  repeat' (first | exact True.intro | refine ⟨_, LeL.refl _, ?_⟩ | refine ⟨_, _, _, LeL.refl _, ?_⟩ | (refine fun (b : Bool) hb => ?_; cases b <;> (first | exact absurd hb (by decide) | exact Bool.noConfusion (show true = false from hb) | exact Bool.noConfusion (show false = true from hb) | skip)) | (refine fun (hl : _ ≤ MAXL) => ?_) | refine And.intro (a := I64 _) ?_ ?_ | refine And.intro (a := _ ≤ 140737488355328) ?_ ?_ | refine ⟨_, ⟨rfl, rfl⟩, ?_⟩ | refine ⟨_, And.intro (a := I64 _) ?_ ⟨rfl, rfl⟩, ?_⟩ | refine ⟨_, _, ⟨rfl, rfl⟩, ?_⟩ | refine ⟨_, (fun _ => ⟨rfl, rfl⟩), ?_⟩ | refine And.intro (a := chkPend _ _ _ _ _ _) ?_ ?_ | refine And.intro (a := chkPast _ _ _ _ _ _ _ _) ?_ ?_ | refine ⟨⟨rfl, rfl⟩, ?_⟩ | refine And.intro (And.intro rfl rfl) ?_ | refine ⟨True.intro, ?_⟩ | refine ⟨_, ⟨_, rfl, ?_, rfl, rfl, rfl⟩, ?_⟩ | refine ⟨_, rfl, ?_, rfl, ?_⟩ | refine ⟨_, (fun _ => rfl), rfl, ?_⟩ | refine ⟨(fun _ => rfl), ?_⟩ | refine ⟨rfl, ?_⟩ | refine Opt.a ?_ | fail)
  · unfold I64
    dsimp only
    omega
  · unfold I64
    dsimp only
    omega
  have ek : k = l.length - 1 - i := by omega
  have e1 : d[k] = l.getD k 0 := by
    have h := swp_at l i k (by omega) (by omega)
    rw [← hd, List.getElem?_eq_getElem hkl] at h
    exact Option.some.inj h
  have e2 : d[i] = l.getD i 0 := by
    have h := swp_at l i i (by omega) (by omega)
    rw [← hd, List.getElem?_eq_getElem hil] at h
    exact Option.some.inj h
  refine ⟨(i + 1, (k : Int) - 1, (d.set i d[k]).set k d[i]), ?_, ⟨?_, ?_, ?_⟩, ?_⟩
  rotate_left
  · show (k : Int) - 1 = (l.length : Int) - 1 - ((i + 1 : Nat) : Int)
    omega
  · show (d.set i d[k]).set k d[i] = swp l (i + 1)
    rw [e1, e2, hd, ek]
    exact swp_next l i (by omega)
  · show 2 * (i + 1) ≤ l.length + 1
    omega
  · show l.length + 1 - (i + 1) < l.length + 1 - i
    omega
  (refine wk_auto ?_; refine Sel4.mk rfl rfl ?_ ?_ <;> (repeat' (first | exact True.intro | exact rfl | exact Or.inl rfl | exact Or.inr rfl | refine And.intro ?_ ?_ | fail)))
  all_goals try (show Row.row 1 _ = Row.row 1 _)
  simp [List.map_set]
end Gv
namespace Gv
variable [Glob] [Laid]
theorem one_ca : callable Tryz.prog 161 = true := by kernel_rfl
def one_S : Spec := fun args K => ∃ (c : Cmd) (s : Bs), args = [cmdV c, .str s] ∧ (checkCmd c = 0 ∧ s.length ≤ 900000) ∧ K (.tup [.str (oneC c s).1, .bool (oneC c s).2])
noncomputable def one_lib : List (Nat × Spec) := [(104, containsS_S), (229, replaceS_S), (105, splitS_S)]
noncomputable def one_fns : List (Nat × FnI) := []
noncomputable def one_prims : List (Nat × PSpec) := [(230, revB_P)]
theorem one_E : EnvOK ⟨Tryz.prog, tys, one_lib, one_fns, one_prims, []⟩ := env_ok mixed0 tys0 (.cons containsS_ca containsS_ok (.cons replaceS_ca replaceS_ok (.cons splitS_ca splitS_ok .nil))) .nil (.cons revB_prim .nil) rfl
set_option maxHeartbeats 4000000 in
theorem one_ok : Pure Tryz.prog 161 one_S := by
  refine pure_by one_E 6 (fi := {fn := Tryz.f161, hooks := [], draws := [(7, [0, 0, 2, 6, 0, 16, 48, 127, 255, 511])]}) ⟨Tryz.func161, by kernel_rfl, by kernel_rfl⟩ ?_
  rintro _ K ⟨c, s, rfl, ⟨hc, hs⟩, hK⟩
  replace hK : ∀ r, r = .tup [.str (oneC c s).1, .bool (oneC c s).2] → K r := fun r h => h ▸ hK
  have hsw := @splitK_sz [32] (Lib.count s [32]) s
  have hsn : 0 < (Lib.split s [32]).length := List.length_pos_iff.2 (split_ne s [32])
  have hcn : c.kind = 4 → 1 ≤ c.n := fun h => by
    unfold checkCmd useN at hc
    grind
  have hcw := @word2 c hc
  have hsl : (Lib.split s [32]).length ≤ 1000000 := by
    rw [split_len _ _ (by decide), Lib.count_one]
    have := List.count_le_length (a := (32 : UInt8)) (l := s)
    omega
  have hone : ∀ r : Bs × Bool, oneC c s = r → K (.tup [.str r.1, .bool r.2]) := fun r h => hK _ (by rw [h])
  unfold oneC at hone
  repeat' (first | exact True.intro | refine ⟨_, LeL.refl _, ?_⟩ | refine ⟨_, _, _, LeL.refl _, ?_⟩ | (refine fun (b : Bool) hb => ?_; cases b <;> (first | exact absurd hb (by decide) | exact Bool.noConfusion (show true = false from hb) | exact Bool.noConfusion (show false = true from hb) | skip)) | (refine fun (hl : _ ≤ MAXL) => ?_) | refine And.intro (a := I64 _) ?_ ?_ | refine And.intro (a := _ ≤ 140737488355328) ?_ ?_ | refine ⟨_, ⟨rfl, rfl⟩, ?_⟩ | refine ⟨_, And.intro (a := I64 _) ?_ ⟨rfl, rfl⟩, ?_⟩ | refine ⟨_, _, ⟨rfl, rfl⟩, ?_⟩ | refine ⟨_, (fun _ => ⟨rfl, rfl⟩), ?_⟩ | refine And.intro (a := chkPend _ _ _ _ _ _) ?_ ?_ | refine And.intro (a := chkPast _ _ _ _ _ _ _ _) ?_ ?_ | refine ⟨⟨rfl, rfl⟩, ?_⟩ | refine And.intro (And.intro rfl rfl) ?_ | refine ⟨True.intro, ?_⟩ | refine ⟨_, ⟨_, rfl, ?_, rfl, rfl, rfl⟩, ?_⟩ | refine ⟨_, rfl, ?_, rfl, ?_⟩ | refine ⟨_, (fun _ => rfl), rfl, ?_⟩ | refine ⟨(fun _ => rfl), ?_⟩ | refine ⟨rfl, ?_⟩ | refine Opt.b ?_ | fail)
  · -- turned
    omega
  · refine ⟨s, rfl, rfl, by omega, ?_⟩
    repeat' (first | exact True.intro | refine ⟨_, LeL.refl _, ?_⟩ | refine ⟨_, _, _, LeL.refl _, ?_⟩ | (refine fun (b : Bool) hb => ?_; cases b <;> (first | exact absurd hb (by decide) | exact Bool.noConfusion (show true = false from hb) | exact Bool.noConfusion (show false = true from hb) | skip)) | (refine fun (hl : _ ≤ MAXL) => ?_) | refine And.intro (a := I64 _) ?_ ?_ | refine And.intro (a := _ ≤ 140737488355328) ?_ ?_ | refine ⟨_, ⟨rfl, rfl⟩, ?_⟩ | refine ⟨_, And.intro (a := I64 _) ?_ ⟨rfl, rfl⟩, ?_⟩ | refine ⟨_, _, ⟨rfl, rfl⟩, ?_⟩ | refine ⟨_, (fun _ => ⟨rfl, rfl⟩), ?_⟩ | refine And.intro (a := chkPend _ _ _ _ _ _) ?_ ?_ | refine And.intro (a := chkPast _ _ _ _ _ _ _ _) ?_ ?_ | refine ⟨⟨rfl, rfl⟩, ?_⟩ | refine And.intro (And.intro rfl rfl) ?_ | refine ⟨True.intro, ?_⟩ | refine ⟨_, ⟨_, rfl, ?_, rfl, rfl, rfl⟩, ?_⟩ | refine ⟨_, rfl, ?_, rfl, ?_⟩ | refine ⟨_, (fun _ => rfl), rfl, ?_⟩ | refine ⟨(fun _ => rfl), ?_⟩ | refine ⟨rfl, ?_⟩ | refine Opt.a ?_ | fail)
    refine ⟨s.reverse, rfl, rfl, ?_⟩
    repeat' (first | exact True.intro | refine ⟨_, LeL.refl _, ?_⟩ | refine ⟨_, _, _, LeL.refl _, ?_⟩ | (refine fun (b : Bool) hb => ?_; cases b <;> (first | exact absurd hb (by decide) | exact Bool.noConfusion (show true = false from hb) | exact Bool.noConfusion (show false = true from hb) | skip)) | (refine fun (hl : _ ≤ MAXL) => ?_) | refine And.intro (a := I64 _) ?_ ?_ | refine And.intro (a := _ ≤ 140737488355328) ?_ ?_ | refine ⟨_, ⟨rfl, rfl⟩, ?_⟩ | refine ⟨_, And.intro (a := I64 _) ?_ ⟨rfl, rfl⟩, ?_⟩ | refine ⟨_, _, ⟨rfl, rfl⟩, ?_⟩ | refine ⟨_, (fun _ => ⟨rfl, rfl⟩), ?_⟩ | refine And.intro (a := chkPend _ _ _ _ _ _) ?_ ?_ | refine And.intro (a := chkPast _ _ _ _ _ _ _ _) ?_ ?_ | refine ⟨⟨rfl, rfl⟩, ?_⟩ | refine And.intro (And.intro rfl rfl) ?_ | refine ⟨True.intro, ?_⟩ | refine ⟨_, ⟨_, rfl, ?_, rfl, rfl, rfl⟩, ?_⟩ | refine ⟨_, rfl, ?_, rfl, ?_⟩ | refine ⟨_, (fun _ => rfl), rfl, ?_⟩ | refine ⟨(fun _ => rfl), ?_⟩ | refine ⟨rfl, ?_⟩ | refine Opt.a ?_ | fail)
    have h1 : ¬ c.kind = 1 := of_decide_eq_false (by assumption)
    have h2 : ¬ c.kind = 2 := of_decide_eq_false (by assumption)
    have h3 : ¬ c.kind = 3 := of_decide_eq_false (by assumption)
    have h4 : ¬ c.kind = 4 := of_decide_eq_false (by assumption)
    rw [if_neg h1, if_neg h2, if_neg h3, if_neg h4] at hone
    exact hone _ rfl
  · -- a field
    have h4 : c.kind = 4 := of_decide_eq_true (by assumption)
    have := hcn h4
    refine ⟨s, [32], rfl, ⟨by omega, by decide⟩, ?_⟩
    rw [if_neg (by omega), if_neg (by omega), if_neg (by omega), if_pos h4] at hone
    repeat' (first | exact True.intro | refine ⟨_, LeL.refl _, ?_⟩ | refine ⟨_, _, _, LeL.refl _, ?_⟩ | (refine fun (b : Bool) hb => ?_; cases b <;> (first | exact absurd hb (by decide) | exact Bool.noConfusion (show true = false from hb) | exact Bool.noConfusion (show false = true from hb) | skip)) | (refine fun (hl : _ ≤ MAXL) => ?_) | refine And.intro (a := I64 _) ?_ ?_ | refine And.intro (a := _ ≤ 140737488355328) ?_ ?_ | refine ⟨_, ⟨rfl, rfl⟩, ?_⟩ | refine ⟨_, And.intro (a := I64 _) ?_ ⟨rfl, rfl⟩, ?_⟩ | refine ⟨_, _, ⟨rfl, rfl⟩, ?_⟩ | refine ⟨_, (fun _ => ⟨rfl, rfl⟩), ?_⟩ | refine And.intro (a := chkPend _ _ _ _ _ _) ?_ ?_ | refine And.intro (a := chkPast _ _ _ _ _ _ _ _) ?_ ?_ | refine ⟨⟨rfl, rfl⟩, ?_⟩ | refine And.intro (And.intro rfl rfl) ?_ | refine ⟨True.intro, ?_⟩ | refine ⟨_, ⟨_, rfl, ?_, rfl, rfl, rfl⟩, ?_⟩ | refine ⟨_, rfl, ?_, rfl, ?_⟩ | refine ⟨_, (fun _ => rfl), rfl, ?_⟩ | refine ⟨(fun _ => rfl), ?_⟩ | refine ⟨rfl, ?_⟩ | refine Opt.a ?_ | fail)
    · have hle : ¬ ((Lib.split s [32]).length : Int) < c.n := of_decide_eq_false (by assumption)
      (first | omega | (unfold I64; omega) | (simp only [List.length_append, List.length_map, List.length_cons, List.length_nil, Nat.mul_one, Int.ofNat_eq_natCast] at *; omega) | (dsimp only at *; omega) | (unfold I64; dsimp only at *; omega) | (unfold I64; grind) | grind)
    · have hle : ¬ ((Lib.split s [32]).length : Int) < c.n := of_decide_eq_false (by assumption)
      have hlt : (c.n - 1).toNat < (Lib.split s [32]).length := by omega
      refine ⟨(c.n - 1).toNat, by omega, hlt, rfl, ?_⟩
      repeat' (first | exact True.intro | refine ⟨_, LeL.refl _, ?_⟩ | refine ⟨_, _, _, LeL.refl _, ?_⟩ | (refine fun (b : Bool) hb => ?_; cases b <;> (first | exact absurd hb (by decide) | exact Bool.noConfusion (show true = false from hb) | exact Bool.noConfusion (show false = true from hb) | skip)) | (refine fun (hl : _ ≤ MAXL) => ?_) | refine And.intro (a := I64 _) ?_ ?_ | refine And.intro (a := _ ≤ 140737488355328) ?_ ?_ | refine ⟨_, ⟨rfl, rfl⟩, ?_⟩ | refine ⟨_, And.intro (a := I64 _) ?_ ⟨rfl, rfl⟩, ?_⟩ | refine ⟨_, _, ⟨rfl, rfl⟩, ?_⟩ | refine ⟨_, (fun _ => ⟨rfl, rfl⟩), ?_⟩ | refine And.intro (a := chkPend _ _ _ _ _ _) ?_ ?_ | refine And.intro (a := chkPast _ _ _ _ _ _ _ _) ?_ ?_ | refine ⟨⟨rfl, rfl⟩, ?_⟩ | refine And.intro (And.intro rfl rfl) ?_ | refine ⟨True.intro, ?_⟩ | refine ⟨_, ⟨_, rfl, ?_, rfl, rfl, rfl⟩, ?_⟩ | refine ⟨_, rfl, ?_, rfl, ?_⟩ | refine ⟨_, (fun _ => rfl), rfl, ?_⟩ | refine ⟨(fun _ => rfl), ?_⟩ | refine ⟨rfl, ?_⟩ | refine Opt.a ?_ | fail)
      rw [if_neg hle] at hone
      have e : (Lib.split s [32]).getD (c.n - 1).toNat [] = (Lib.split s [32])[(c.n - 1).toNat] := by rw [List.getD_eq_getElem?_getD, List.getElem?_eq_getElem hlt]; rfl
      rw [e] at hone
      exact hone _ rfl
    · have hle : ((Lib.split s [32]).length : Int) < c.n := of_decide_eq_true (by assumption)
      rw [if_pos hle] at hone
      exact hone _ rfl
  · -- a byte for another
    have h3 : c.kind = 3 := of_decide_eq_true (by assumption)
    obtain ⟨x, y, hw⟩ := hcw h3
    rw [if_neg (by omega), if_neg (by omega), if_pos h3] at hone
    obtain ⟨ck, cw, cn⟩ := c
    dsimp only at hw
    subst hw
    refine ⟨_, ⟨0, 1, rfl, rfl, by decide, by show 1 ≤ 2; decide, rfl, rfl⟩, ?_⟩
    repeat' (first | exact True.intro | refine ⟨_, LeL.refl _, ?_⟩ | refine ⟨_, _, _, LeL.refl _, ?_⟩ | (refine fun (b : Bool) hb => ?_; cases b <;> (first | exact absurd hb (by decide) | exact Bool.noConfusion (show true = false from hb) | exact Bool.noConfusion (show false = true from hb) | skip)) | (refine fun (hl : _ ≤ MAXL) => ?_) | refine And.intro (a := I64 _) ?_ ?_ | refine And.intro (a := _ ≤ 140737488355328) ?_ ?_ | refine ⟨_, ⟨rfl, rfl⟩, ?_⟩ | refine ⟨_, And.intro (a := I64 _) ?_ ⟨rfl, rfl⟩, ?_⟩ | refine ⟨_, _, ⟨rfl, rfl⟩, ?_⟩ | refine ⟨_, (fun _ => ⟨rfl, rfl⟩), ?_⟩ | refine And.intro (a := chkPend _ _ _ _ _ _) ?_ ?_ | refine And.intro (a := chkPast _ _ _ _ _ _ _ _) ?_ ?_ | refine ⟨⟨rfl, rfl⟩, ?_⟩ | refine And.intro (And.intro rfl rfl) ?_ | refine ⟨True.intro, ?_⟩ | refine ⟨_, ⟨_, rfl, ?_, rfl, rfl, rfl⟩, ?_⟩ | refine ⟨_, rfl, ?_, rfl, ?_⟩ | refine ⟨_, (fun _ => rfl), rfl, ?_⟩ | refine ⟨(fun _ => rfl), ?_⟩ | refine ⟨rfl, ?_⟩ | refine Opt.a ?_ | fail)
    conv => whnf
    refine ⟨_, ⟨1, 2, rfl, rfl, by decide, by show 2 ≤ 2; decide, rfl, rfl⟩, ?_⟩
    repeat' (first | exact True.intro | refine ⟨_, LeL.refl _, ?_⟩ | refine ⟨_, _, _, LeL.refl _, ?_⟩ | (refine fun (b : Bool) hb => ?_; cases b <;> (first | exact absurd hb (by decide) | exact Bool.noConfusion (show true = false from hb) | exact Bool.noConfusion (show false = true from hb) | skip)) | (refine fun (hl : _ ≤ MAXL) => ?_) | refine And.intro (a := I64 _) ?_ ?_ | refine And.intro (a := _ ≤ 140737488355328) ?_ ?_ | refine ⟨_, ⟨rfl, rfl⟩, ?_⟩ | refine ⟨_, And.intro (a := I64 _) ?_ ⟨rfl, rfl⟩, ?_⟩ | refine ⟨_, _, ⟨rfl, rfl⟩, ?_⟩ | refine ⟨_, (fun _ => ⟨rfl, rfl⟩), ?_⟩ | refine And.intro (a := chkPend _ _ _ _ _ _) ?_ ?_ | refine And.intro (a := chkPast _ _ _ _ _ _ _ _) ?_ ?_ | refine ⟨⟨rfl, rfl⟩, ?_⟩ | refine And.intro (And.intro rfl rfl) ?_ | refine ⟨True.intro, ?_⟩ | refine ⟨_, ⟨_, rfl, ?_, rfl, rfl, rfl⟩, ?_⟩ | refine ⟨_, rfl, ?_, rfl, ?_⟩ | refine ⟨_, (fun _ => rfl), rfl, ?_⟩ | refine ⟨(fun _ => rfl), ?_⟩ | refine ⟨rfl, ?_⟩ | refine Opt.a ?_ | fail)
    have hr := replace_one x y s
    have hl : (Lib.replaceAll s [x] [y]).length = s.length := by rw [hr]; simp
    have hcs : Lib.count s [x] ≤ s.length := by rw [Lib.count_one]; exact List.count_le_length
    apply Exists.intro
    apply And.intro
    · refine ⟨s, [x], [y], rfl, ⟨by omega, by show 1 ≤ 1; decide, by show s.length + Lib.count s [x] * 1 ≤ _; omega, by rw [hl]; unfold MAXL; omega⟩, ?_⟩
      exact ⟨rfl, rfl⟩
    repeat' (first | exact True.intro | refine ⟨_, LeL.refl _, ?_⟩ | refine ⟨_, _, _, LeL.refl _, ?_⟩ | (refine fun (b : Bool) hb => ?_; cases b <;> (first | exact absurd hb (by decide) | exact Bool.noConfusion (show true = false from hb) | exact Bool.noConfusion (show false = true from hb) | skip)) | (refine fun (hl : _ ≤ MAXL) => ?_) | refine And.intro (a := I64 _) ?_ ?_ | refine And.intro (a := _ ≤ 140737488355328) ?_ ?_ | refine ⟨_, ⟨rfl, rfl⟩, ?_⟩ | refine ⟨_, And.intro (a := I64 _) ?_ ⟨rfl, rfl⟩, ?_⟩ | refine ⟨_, _, ⟨rfl, rfl⟩, ?_⟩ | refine ⟨_, (fun _ => ⟨rfl, rfl⟩), ?_⟩ | refine And.intro (a := chkPend _ _ _ _ _ _) ?_ ?_ | refine And.intro (a := chkPast _ _ _ _ _ _ _ _) ?_ ?_ | refine ⟨⟨rfl, rfl⟩, ?_⟩ | refine And.intro (And.intro rfl rfl) ?_ | refine ⟨True.intro, ?_⟩ | refine ⟨_, ⟨_, rfl, ?_, rfl, rfl, rfl⟩, ?_⟩ | refine ⟨_, rfl, ?_, rfl, ?_⟩ | refine ⟨_, (fun _ => rfl), rfl, ?_⟩ | refine ⟨(fun _ => rfl), ?_⟩ | refine ⟨rfl, ?_⟩ | refine Opt.a ?_ | fail)
    exact hone _ rfl
  · have h : c.kind = 2 := of_decide_eq_true (by assumption)
    refine ⟨s, c.word, rfl, by omega, ?_⟩
    repeat' (first | exact True.intro | refine ⟨_, LeL.refl _, ?_⟩ | refine ⟨_, _, _, LeL.refl _, ?_⟩ | (refine fun (b : Bool) hb => ?_; cases b <;> (first | exact absurd hb (by decide) | exact Bool.noConfusion (show true = false from hb) | exact Bool.noConfusion (show false = true from hb) | skip)) | (refine fun (hl : _ ≤ MAXL) => ?_) | refine And.intro (a := I64 _) ?_ ?_ | refine And.intro (a := _ ≤ 140737488355328) ?_ ?_ | refine ⟨_, ⟨rfl, rfl⟩, ?_⟩ | refine ⟨_, And.intro (a := I64 _) ?_ ⟨rfl, rfl⟩, ?_⟩ | refine ⟨_, _, ⟨rfl, rfl⟩, ?_⟩ | refine ⟨_, (fun _ => ⟨rfl, rfl⟩), ?_⟩ | refine And.intro (a := chkPend _ _ _ _ _ _) ?_ ?_ | refine And.intro (a := chkPast _ _ _ _ _ _ _ _) ?_ ?_ | refine ⟨⟨rfl, rfl⟩, ?_⟩ | refine And.intro (And.intro rfl rfl) ?_ | refine ⟨True.intro, ?_⟩ | refine ⟨_, ⟨_, rfl, ?_, rfl, rfl, rfl⟩, ?_⟩ | refine ⟨_, rfl, ?_, rfl, ?_⟩ | refine ⟨_, (fun _ => rfl), rfl, ?_⟩ | refine ⟨(fun _ => rfl), ?_⟩ | refine ⟨rfl, ?_⟩ | refine Opt.a ?_ | fail)
    rw [if_neg (by omega), if_pos h] at hone
    exact hone _ rfl
  · have h : c.kind = 1 := of_decide_eq_true (by assumption)
    refine ⟨s, c.word, rfl, by omega, ?_⟩
    repeat' (first | exact True.intro | refine ⟨_, LeL.refl _, ?_⟩ | refine ⟨_, _, _, LeL.refl _, ?_⟩ | (refine fun (b : Bool) hb => ?_; cases b <;> (first | exact absurd hb (by decide) | exact Bool.noConfusion (show true = false from hb) | exact Bool.noConfusion (show false = true from hb) | skip)) | (refine fun (hl : _ ≤ MAXL) => ?_) | refine And.intro (a := I64 _) ?_ ?_ | refine And.intro (a := _ ≤ 140737488355328) ?_ ?_ | refine ⟨_, ⟨rfl, rfl⟩, ?_⟩ | refine ⟨_, And.intro (a := I64 _) ?_ ⟨rfl, rfl⟩, ?_⟩ | refine ⟨_, _, ⟨rfl, rfl⟩, ?_⟩ | refine ⟨_, (fun _ => ⟨rfl, rfl⟩), ?_⟩ | refine And.intro (a := chkPend _ _ _ _ _ _) ?_ ?_ | refine And.intro (a := chkPast _ _ _ _ _ _ _ _) ?_ ?_ | refine ⟨⟨rfl, rfl⟩, ?_⟩ | refine And.intro (And.intro rfl rfl) ?_ | refine ⟨True.intro, ?_⟩ | refine ⟨_, ⟨_, rfl, ?_, rfl, rfl, rfl⟩, ?_⟩ | refine ⟨_, rfl, ?_, rfl, ?_⟩ | refine ⟨_, (fun _ => rfl), rfl, ?_⟩ | refine ⟨(fun _ => rfl), ?_⟩ | refine ⟨rfl, ?_⟩ | refine Opt.a ?_ | fail)
    rw [if_pos h] at hone
    exact hone _ rfl
end Gv
namespace Gv
variable [Glob] [Laid] [Nums]
theorem bel_more (w : World) (k : Nat) (os : Array Obj) : Bel [] w (Go.Sort.grow (w.drewN k) os) :=
  ⟨rfl, rfl, rfl, by rw [Go.Sort.size_grow]; exact Nat.le_add_right _ _, fun i hi _ => Go.Sort.heap_grow_old (w.drewN k) os hi⟩
theorem itoa_ca : callable Tryz.prog 107 = true := by kernel_rfl
def itoa_S : Spec := fun args K => ∃ (n : Int), args = [.int .i64 n] ∧ I64 n ∧ K (.str (Lib.itoa n))
set_option maxHeartbeats 4000000 in
theorem itoa_ok : Pure Tryz.prog 107 itoa_S := by
  intro w m args us K hm hg hv hT
  obtain ⟨n, rfl, h1, hK⟩ := hT
  obtain ⟨a, rfl, ha⟩ := args1 hv.1 hv.2
  cases ha
  refine (Tryz.strconv_Itoa n h1.1 h1.2 w (Nums.pow10 w (fun b o e => hm b o (hg b o e)))).mono fun e w' ⟨he, k, os, hw⟩ => ?_
  subst hw
  have := itoa_len n h1
  exact ⟨_, _, he, bel_more w k os, hK, .str (by unfold MAXL; omega)⟩
end Gv
namespace Gv
variable [Glob] [Laid]
theorem sortS_ca : callable Tryz.prog 159 = true := by kernel_rfl
def sortS_P : PSpec := fun args rows K => (∃ (l : List Bs), args = [.own 0] ∧ rows = [.row 1 (l.map strV)] ∧ l.length < 4611686018427387904 ∧ K (.tup []) [.row 1 ((sortB l).map strV)]) ∨ (args = [.nil] ∧ rows = [] ∧ K (.tup []) [])
set_option maxHeartbeats 4000000 in
theorem sortS_prim : PrimOK Tryz.prog 159 sortS_P := by
  intro w0 m0 args rows k R m q w us C hv hT
  rcases hT with ⟨l, rfl, rfl, hl, hK⟩ | ⟨rfl, rfl, hK⟩
  rotate_left
  · obtain ⟨u, rfl, hu⟩ := vrl_one hv
    refine ⟨sortS_ca, ?_⟩
    cases hu
    refine (Tryz.slices_Sort_string_none none 0 w).mono fun e w' ⟨he, hw⟩ => ?_
    subst hw
    exact ⟨_, he, _, _, _, _, _, hK, C, Mem.Le.refl m, Loc.Le.refl q, .tup (us := []) rfl fun i v u h => by simp at h⟩
  obtain ⟨u, rfl, hu⟩ := vrl_one hv
  refine ⟨sortS_ca, ?_⟩
  rcases own_strs C hu with ⟨rfl, rfl⟩ | ⟨b, cap, arr, T, fz, rfl, h1, h2, h3, h4, h5, h6, h7, h8⟩
  · refine (Tryz.slices_Sort_string_none none 0 w).mono fun e w' ⟨he, hw⟩ => ?_
    subst hw
    have e : sortB ([] : List Bs) = [] := by simp [sortB]
    rw [e] at hK
    exact ⟨_, he, _, _, _, _, _, hK, C, Mem.Le.refl m, Loc.Le.refl q, .tup (us := []) rfl fun i v u h => by simp at h⟩
  · have hblk := C.sit.lt h4
    refine (Tryz.slices_Sort_string b 0 cap l w h7 hblk hl).mono fun e w' ⟨he, n, os, hw⟩ => ?_
    obtain ⟨g1, g2⟩ := sorted_world (C.sit.own _ _ h4).2.1 hw
    have C2 := C.strs_put (l' := sortB l) h3 h4 h5 h6 h2 h1 (sortB_len l) (fun x hx => h8 x ((sortB_perm l).mem_iff.1 hx)) g1 g2
    exact ⟨_, he, _, _, _, _, _, hK, C2, Mem.Le.refl m, Loc.Le.refl q, .tup (us := []) rfl fun i v u h => by simp at h⟩
end Gv
namespace Gv
variable [Glob] [Laid]
theorem compactS_ca : callable Tryz.prog 160 = true := by kernel_rfl
def compactS_P : PSpec := fun args rows K => (∃ (l : List Bs), args = [.own 0] ∧ rows = [.row 1 (l.map strV)] ∧ K (.own 1) [.dead, .row 1 ((onceB l).map strV)]) ∨ (args = [.nil] ∧ rows = [] ∧ K .nil [])
set_option maxHeartbeats 4000000 in
theorem compactS_prim : PrimOK Tryz.prog 160 compactS_P := by
  intro w0 m0 args rows k R m q w us C hv hT
  rcases hT with ⟨l, rfl, rfl, hK⟩ | ⟨rfl, rfl, hK⟩
  rotate_left
  · obtain ⟨u, rfl, hu⟩ := vrl_one hv
    refine ⟨compactS_ca, ?_⟩
    cases hu
    refine (Tryz.slices_Compact_string_empty none 0 w).mono fun e w' ⟨he, hw⟩ => ?_
    subst hw
    exact ⟨_, he, _, _, _, _, _, hK, C, Mem.Le.refl m, Loc.Le.refl q, .nil⟩
  obtain ⟨u, rfl, hu⟩ := vrl_one hv
  refine ⟨compactS_ca, ?_⟩
  rcases own_strs C hu with ⟨rfl, rfl⟩ | ⟨b, cap, arr, T, fz, rfl, h1, h2, h3, h4, h5, h6, h7, h8⟩
  · refine (Tryz.slices_Compact_string_empty none 0 w).mono fun e w' ⟨he, hw⟩ => ?_
    subst hw
    have C1 := C.kill (r := 0) rfl
    have C2 := C1.row0 1
    refine ⟨_, he, _, _, _, _, _, hK, C2, Mem.Le.refl m, C1.le_add _, ?_⟩
    exact VR.own (add_self q 1 (none, 0, 0, 1))
  · have hw0 := (C.sit.own _ _ h4).2.1
    refine (Tryz.slices_Compact_string b 0 cap l w h7 (by unfold MAXL at h2; omega) h1).mono fun e w' ⟨he, n, hw⟩ => ?_
    obtain ⟨g1, g2⟩ := sorted_world (w' := w') (n := n) (d := (Lib.compact l ++ List.replicate (l.length - (Lib.compact l).length) ([] : Bs)).toArray) (os := #[]) hw0 (by rw [hw, Go.Sort.grow_empty])
    have S' := C.sit.write h4 g1 g2
    have hlen : (Lib.compact l ++ List.replicate (l.length - (Lib.compact l).length) ([] : Bs)).length ≤ cap := by
      have := onceB_len l
      unfold onceB at this
      simp
      omega
    have he' : ElsR m 1 ((onceB l).map strV) (Go.Sort.putCells Go.Proofs.encStr 0 (Lib.compact l ++ List.replicate (l.length - (Lib.compact l).length) ([] : Bs)).toArray arr) := fun i x hi => by
      have hx := els_put (m := m) (l := l) (l' := Lib.compact l ++ List.replicate (l.length - (Lib.compact l).length) ([] : Bs)) h5 hlen (fun x hx => by
        rcases List.mem_append.1 hx with hx | hx
        · exact h8 x (onceB_sub l x hx)
        · rw [(List.mem_replicate.1 hx).2]; exact Nat.zero_le _)
      refine hx i x ?_
      rw [List.map_append, List.getElem?_append_left (show i < ((Lib.compact l).map strV).length from (List.getElem?_eq_some_iff.1 hi).1)]
      exact hi
    have e0 : ([Row.row 1 (l.map strV)].set 0 Row.dead ++ [.row 1 ((onceB l).map strV)]) = [.dead, .row 1 ((onceB l).map strV)] := rfl
    have C2 := C.move (r := 0) (y := .row 1 ((onceB l).map strV)) (n' := (onceB l).length) (c' := cap) (k' := 1) rfl rfl h3 S' ⟨some b, cap, by simp [add_self], by simp; have := onceB_len l; omega, h2, (fun h => by cases h), fun b' e => by
      cases e
      exact ⟨_, T, fz, by simp [Mem.put], by rw [putCells_size]; exact h5, he', by rw [putCells_size]; exact h6⟩⟩
    refine ⟨_, he, _, _, _, _, _, hK, C2, Mem.Le.refl m, C.le_add _, ?_⟩
    exact VR.own (add_self q 1 (some b, (onceB l).length, cap, 1))
end Gv
namespace Gv
variable [Glob] [Laid] [Nums]
theorem linesC_ca : callable Tryz.prog 98 = true := by kernel_rfl
def linesC_S : Spec := fun args K => ∃ (c : Cmd) (l : List Bs), args = [cmdV c, .sl strV l] ∧ (checkCmd c = 0 ∧ l.length ≤ 900000 ∧ ∀ s ∈ l, s.length ≤ 900000) ∧ K (.sl strV (linesC c l))
noncomputable def linesC_lib : List (Nat × Spec) := [(161, one_S), (107, itoa_S)]
noncomputable def linesC_fns : List (Nat × FnI) := [(113, {fn := Tryz.f113, hooks := [], draws := []})]
noncomputable def linesC_prims : List (Nat × PSpec) := [(159, sortS_P), (160, compactS_P)]
theorem linesC_E : EnvOK ⟨Tryz.prog, tys, linesC_lib, linesC_fns, linesC_prims, []⟩ := env_ok mixed0 tys0 (.cons one_ca one_ok (.cons itoa_ca itoa_ok .nil)) (.cons (by kernel_rfl) ⟨Tryz.func113, by kernel_rfl, by kernel_rfl⟩ .nil) (.cons sortS_prim (.cons compactS_prim .nil)) rfl
set_option maxHeartbeats 4000000 in
theorem linesC_ok : Pure Tryz.prog 98 linesC_S := by
  refine pure_by linesC_E 6 (fi := {fn := Tryz.f98, hooks := [], draws := []}) ⟨Tryz.func98, by kernel_rfl, by kernel_rfl⟩ ?_
  rintro _ K ⟨c, l, rfl, ⟨hc, hl, hs⟩, hK⟩
  replace hK : ∀ r, r = .sl strV (linesC c l) → K r := fun r h => h ▸ hK
  have hcn : c.kind = 9 ∨ c.kind = 10 → 1 ≤ c.n ∧ c.n ≤ 1000 := fun h => by
    unfold checkCmd useN at hc
    grind
  have hone : ∀ r : List Bs, linesC c l = r → K (.sl strV r) := fun r h => hK _ (by rw [h])
  unfold linesC at hone
  repeat' (first | exact True.intro | refine ⟨_, LeL.refl _, ?_⟩ | refine ⟨_, _, _, LeL.refl _, ?_⟩ | (refine fun (b : Bool) hb => ?_; cases b <;> (first | exact absurd hb (by decide) | exact Bool.noConfusion (show true = false from hb) | exact Bool.noConfusion (show false = true from hb) | skip)) | (refine fun (hl : _ ≤ MAXL) => ?_) | refine And.intro (a := I64 _) ?_ ?_ | refine And.intro (a := _ ≤ 140737488355328) ?_ ?_ | refine ⟨_, ⟨rfl, rfl⟩, ?_⟩ | refine ⟨_, And.intro (a := I64 _) ?_ ⟨rfl, rfl⟩, ?_⟩ | refine ⟨_, _, ⟨rfl, rfl⟩, ?_⟩ | refine ⟨_, (fun _ => ⟨rfl, rfl⟩), ?_⟩ | refine And.intro (a := chkPend _ _ _ _ _ _) ?_ ?_ | refine And.intro (a := chkPast _ _ _ _ _ _ _ _) ?_ ?_ | refine ⟨⟨rfl, rfl⟩, ?_⟩ | refine And.intro (And.intro rfl rfl) ?_ | refine ⟨True.intro, ?_⟩ | refine ⟨_, ⟨_, rfl, ?_, rfl, rfl, rfl⟩, ?_⟩ | refine ⟨_, rfl, ?_, rfl, ?_⟩ | refine ⟨_, (fun _ => rfl), rfl, ?_⟩ | refine ⟨(fun _ => rfl), ?_⟩ | refine ⟨rfl, ?_⟩ | refine Opt.a ?_ | fail)
  · -- one line at a time
    have h6 : ¬ c.kind = 6 := of_decide_eq_false (by assumption)
    have h7 : ¬ c.kind = 7 := of_decide_eq_false (by assumption)
    have h8 : ¬ c.kind = 8 := of_decide_eq_false (by assumption)
    have h9 : ¬ c.kind = 9 := of_decide_eq_false (by assumption)
    have h10 : ¬ c.kind = 10 := of_decide_eq_false (by assumption)
    rw [if_neg h6, if_neg h7, if_neg h8, if_neg h9, if_neg h10] at hone
    conv => whnf
    refine loop_live [2, 51, 52] (σ := Nat × List Bs) (fun s => [(53, .int .i64 s.1), (5, .own 1)]) (fun s => [.box (cmdV c).cells, .row 1 (s.2.map strV)]) (fun s => s.2 = (l.take s.1).filterMap (outC c) ∧ s.1 ≤ l.length) (fun s => l.length - s.1) (0, []) ?_
    conv => whnf
    refine ⟨(by (refine wk_auto ?_; refine Sel4.mk rfl rfl ?_ ?_ <;> (repeat' (first | exact True.intro | exact rfl | exact Or.inl rfl | exact Or.inr rfl | refine And.intro ?_ ?_ | fail)))), ⟨by simp, Nat.zero_le _⟩, fun s hs => ?_⟩
    obtain ⟨i, out⟩ := s
    obtain ⟨ho, hi⟩ := hs
    dsimp only at ho hi
    have hol : out.length ≤ 900000 := by
      rw [ho]
      have := List.length_filterMap_le (outC c) (l.take i)
      simp only [List.length_take] at this
      omega
    repeat' (first | exact True.intro | refine ⟨_, LeL.refl _, ?_⟩ | refine ⟨_, _, _, LeL.refl _, ?_⟩ | (refine fun (b : Bool) hb => ?_; cases b <;> (first | exact absurd hb (by decide) | exact Bool.noConfusion (show true = false from hb) | exact Bool.noConfusion (show false = true from hb) | skip)) | (refine fun (hl : _ ≤ MAXL) => ?_) | refine And.intro (a := I64 _) ?_ ?_ | refine And.intro (a := _ ≤ 140737488355328) ?_ ?_ | refine ⟨_, ⟨rfl, rfl⟩, ?_⟩ | refine ⟨_, And.intro (a := I64 _) ?_ ⟨rfl, rfl⟩, ?_⟩ | refine ⟨_, _, ⟨rfl, rfl⟩, ?_⟩ | refine ⟨_, (fun _ => ⟨rfl, rfl⟩), ?_⟩ | refine And.intro (a := chkPend _ _ _ _ _ _) ?_ ?_ | refine And.intro (a := chkPast _ _ _ _ _ _ _ _) ?_ ?_ | refine ⟨⟨rfl, rfl⟩, ?_⟩ | refine And.intro (And.intro rfl rfl) ?_ | refine ⟨True.intro, ?_⟩ | refine ⟨_, ⟨_, rfl, ?_, rfl, rfl, rfl⟩, ?_⟩ | refine ⟨_, rfl, ?_, rfl, ?_⟩ | refine ⟨_, (fun _ => rfl), rfl, ?_⟩ | refine ⟨(fun _ => rfl), ?_⟩ | refine ⟨rfl, ?_⟩ | refine Opt.a ?_ | fail)
    · have h : ¬ (i : Int) < (l.length : Int) := of_decide_eq_false (by assumption)
      have e : i = l.length := by omega
      rw [e, List.take_length] at ho
      conv => whnf
      exact hone _ ho.symm
    all_goals have hlt : i < l.length := by grind
    · exact hlt
    refine ⟨c, l[i], rfl, ⟨hc, hs _ (List.getElem_mem hlt)⟩, ?_⟩
    have hnx : (l.take (i + 1)).filterMap (outC c) = out ++ (match oneC c l[i] with | (t, true) => [t] | (_, false) => []) := by
      rw [List.take_succ_eq_append_getElem hlt, List.filterMap_append, ← ho]
      congr 1
      simp only [List.filterMap_cons, List.filterMap_nil]
      unfold outC
      generalize oneC c l[i] = p
      obtain ⟨t, b⟩ := p
      cases b <;> rfl
    obtain ⟨p, hp⟩ : ∃ p, oneC c l[i] = p := ⟨_, rfl⟩
    rw [hp] at hnx ⊢
    obtain ⟨t, b⟩ := p
    cases b
    · repeat' (first | exact True.intro | refine ⟨_, LeL.refl _, ?_⟩ | refine ⟨_, _, _, LeL.refl _, ?_⟩ | (refine fun (b : Bool) hb => ?_; cases b <;> (first | exact absurd hb (by decide) | exact Bool.noConfusion (show true = false from hb) | exact Bool.noConfusion (show false = true from hb) | skip)) | (refine fun (hl : _ ≤ MAXL) => ?_) | refine And.intro (a := I64 _) ?_ ?_ | refine And.intro (a := _ ≤ 140737488355328) ?_ ?_ | refine ⟨_, ⟨rfl, rfl⟩, ?_⟩ | refine ⟨_, And.intro (a := I64 _) ?_ ⟨rfl, rfl⟩, ?_⟩ | refine ⟨_, _, ⟨rfl, rfl⟩, ?_⟩ | refine ⟨_, (fun _ => ⟨rfl, rfl⟩), ?_⟩ | refine And.intro (a := chkPend _ _ _ _ _ _) ?_ ?_ | refine And.intro (a := chkPast _ _ _ _ _ _ _ _) ?_ ?_ | refine ⟨⟨rfl, rfl⟩, ?_⟩ | refine And.intro (And.intro rfl rfl) ?_ | refine ⟨True.intro, ?_⟩ | refine ⟨_, ⟨_, rfl, ?_, rfl, rfl, rfl⟩, ?_⟩ | refine ⟨_, rfl, ?_, rfl, ?_⟩ | refine ⟨_, (fun _ => rfl), rfl, ?_⟩ | refine ⟨(fun _ => rfl), ?_⟩ | refine ⟨rfl, ?_⟩ | refine Opt.a ?_ | fail)
      · (first | omega | (unfold I64; omega) | (simp only [List.length_append, List.length_map, List.length_cons, List.length_nil, Nat.mul_one, Int.ofNat_eq_natCast] at *; omega) | (dsimp only at *; omega) | (unfold I64; dsimp only at *; omega) | (unfold I64; grind) | grind)
      refine ⟨(i + 1, out), (by (refine wk_auto ?_; refine Sel4.mk rfl rfl ?_ ?_ <;> (repeat' (first | exact True.intro | exact rfl | exact Or.inl rfl | exact Or.inr rfl | refine And.intro ?_ ?_ | fail)))), ⟨?_, hlt⟩, ?_⟩
      · show out = _
        rw [hnx]
        simp
      · show l.length - (i + 1) < l.length - i
        omega
    · repeat' (first | exact True.intro | refine ⟨_, LeL.refl _, ?_⟩ | refine ⟨_, _, _, LeL.refl _, ?_⟩ | (refine fun (b : Bool) hb => ?_; cases b <;> (first | exact absurd hb (by decide) | exact Bool.noConfusion (show true = false from hb) | exact Bool.noConfusion (show false = true from hb) | skip)) | (refine fun (hl : _ ≤ MAXL) => ?_) | refine And.intro (a := I64 _) ?_ ?_ | refine And.intro (a := _ ≤ 140737488355328) ?_ ?_ | refine ⟨_, ⟨rfl, rfl⟩, ?_⟩ | refine ⟨_, And.intro (a := I64 _) ?_ ⟨rfl, rfl⟩, ?_⟩ | refine ⟨_, _, ⟨rfl, rfl⟩, ?_⟩ | refine ⟨_, (fun _ => ⟨rfl, rfl⟩), ?_⟩ | refine And.intro (a := chkPend _ _ _ _ _ _) ?_ ?_ | refine And.intro (a := chkPast _ _ _ _ _ _ _ _) ?_ ?_ | refine ⟨⟨rfl, rfl⟩, ?_⟩ | refine And.intro (And.intro rfl rfl) ?_ | refine ⟨True.intro, ?_⟩ | refine ⟨_, ⟨_, rfl, ?_, rfl, rfl, rfl⟩, ?_⟩ | refine ⟨_, rfl, ?_, rfl, ?_⟩ | refine ⟨_, (fun _ => rfl), rfl, ?_⟩ | refine ⟨(fun _ => rfl), ?_⟩ | refine ⟨rfl, ?_⟩ | refine Opt.a ?_ | fail)
      · show ((out.map strV).length + 1) * 16 ≤ 140737488355328
        rw [List.length_map]
        omega
      · (first | omega | (unfold I64; omega) | (simp only [List.length_append, List.length_map, List.length_cons, List.length_nil, Nat.mul_one, Int.ofNat_eq_natCast] at *; omega) | (dsimp only at *; omega) | (unfold I64; dsimp only at *; omega) | (unfold I64; grind) | grind)
      refine ⟨(i + 1, out ++ [t]), ?_, ⟨?_, hlt⟩, ?_⟩
      rotate_left
      · show out ++ [t] = _
        rw [hnx]
      · show l.length - (i + 1) < l.length - i
        omega
      (refine wk_auto ?_; refine Sel4.mk rfl rfl ?_ ?_ <;> (repeat' (first | exact True.intro | exact rfl | exact Or.inl rfl | exact Or.inr rfl | refine And.intro ?_ ?_ | fail)))
      show Row.row 1 _ = Row.row 1 _
      simp
      rfl
  · obtain ⟨h1, h2⟩ := hcn (.inr (of_decide_eq_true (by assumption)))
    (first | omega | (unfold I64; omega) | (simp only [List.length_append, List.length_map, List.length_cons, List.length_nil, Nat.mul_one, Int.ofNat_eq_natCast] at *; omega) | (dsimp only at *; omega) | (unfold I64; dsimp only at *; omega) | (unfold I64; grind) | grind)
  · obtain ⟨h1, h2⟩ := hcn (.inr (of_decide_eq_true (by assumption)))
    have h6 : ¬ c.kind = 6 := of_decide_eq_false (by assumption)
    have h7 : ¬ c.kind = 7 := of_decide_eq_false (by assumption)
    have h8 : ¬ c.kind = 8 := of_decide_eq_false (by assumption)
    have h9 : ¬ c.kind = 9 := of_decide_eq_false (by assumption)
    have h10 : c.kind = 10 := of_decide_eq_true (by assumption)
    rw [if_neg h6, if_neg h7, if_neg h8, if_neg h9, if_pos h10] at hone
    conv => whnf
    refine ⟨l.length - c.n.toNat, by omega, by omega, ?_⟩
    repeat' (first | exact True.intro | refine ⟨_, LeL.refl _, ?_⟩ | refine ⟨_, _, _, LeL.refl _, ?_⟩ | (refine fun (b : Bool) hb => ?_; cases b <;> (first | exact absurd hb (by decide) | exact Bool.noConfusion (show true = false from hb) | exact Bool.noConfusion (show false = true from hb) | skip)) | (refine fun (hl : _ ≤ MAXL) => ?_) | refine And.intro (a := I64 _) ?_ ?_ | refine And.intro (a := _ ≤ 140737488355328) ?_ ?_ | refine ⟨_, ⟨rfl, rfl⟩, ?_⟩ | refine ⟨_, And.intro (a := I64 _) ?_ ⟨rfl, rfl⟩, ?_⟩ | refine ⟨_, _, ⟨rfl, rfl⟩, ?_⟩ | refine ⟨_, (fun _ => ⟨rfl, rfl⟩), ?_⟩ | refine And.intro (a := chkPend _ _ _ _ _ _) ?_ ?_ | refine And.intro (a := chkPast _ _ _ _ _ _ _ _) ?_ ?_ | refine ⟨⟨rfl, rfl⟩, ?_⟩ | refine And.intro (And.intro rfl rfl) ?_ | refine ⟨True.intro, ?_⟩ | refine ⟨_, ⟨_, rfl, ?_, rfl, rfl, rfl⟩, ?_⟩ | refine ⟨_, rfl, ?_, rfl, ?_⟩ | refine ⟨_, (fun _ => rfl), rfl, ?_⟩ | refine ⟨(fun _ => rfl), ?_⟩ | refine ⟨rfl, ?_⟩ | refine Opt.a ?_ | fail)
    · show (0 + ((l.drop (l.length - c.n.toNat)).map strV).length) * 16 ≤ 140737488355328
      rw [List.length_map, List.length_drop]
      omega
    · exact hone _ rfl
    · have h : true = true → l.drop (l.length - c.n.toNat) = [] := by assumption
      refine ⟨_, strV, hone _ (h rfl)⟩
  · obtain ⟨h1, h2⟩ := hcn (.inl (of_decide_eq_true (by assumption)))
    have h6 : ¬ c.kind = 6 := of_decide_eq_false (by assumption)
    have h7 : ¬ c.kind = 7 := of_decide_eq_false (by assumption)
    have h8 : ¬ c.kind = 8 := of_decide_eq_false (by assumption)
    have h9 : c.kind = 9 := of_decide_eq_true (by assumption)
    rw [if_neg h6, if_neg h7, if_neg h8, if_pos h9] at hone
    conv => whnf
    have ht : l.take (min c.n.toNat l.length) = l.take c.n.toNat := by
      rw [← List.take_take, List.take_length]
    refine ⟨min c.n.toNat l.length, by omega, by omega, ?_⟩
    repeat' (first | exact True.intro | refine ⟨_, LeL.refl _, ?_⟩ | refine ⟨_, _, _, LeL.refl _, ?_⟩ | (refine fun (b : Bool) hb => ?_; cases b <;> (first | exact absurd hb (by decide) | exact Bool.noConfusion (show true = false from hb) | exact Bool.noConfusion (show false = true from hb) | skip)) | (refine fun (hl : _ ≤ MAXL) => ?_) | refine And.intro (a := I64 _) ?_ ?_ | refine And.intro (a := _ ≤ 140737488355328) ?_ ?_ | refine ⟨_, ⟨rfl, rfl⟩, ?_⟩ | refine ⟨_, And.intro (a := I64 _) ?_ ⟨rfl, rfl⟩, ?_⟩ | refine ⟨_, _, ⟨rfl, rfl⟩, ?_⟩ | refine ⟨_, (fun _ => ⟨rfl, rfl⟩), ?_⟩ | refine And.intro (a := chkPend _ _ _ _ _ _) ?_ ?_ | refine And.intro (a := chkPast _ _ _ _ _ _ _ _) ?_ ?_ | refine ⟨⟨rfl, rfl⟩, ?_⟩ | refine And.intro (And.intro rfl rfl) ?_ | refine ⟨True.intro, ?_⟩ | refine ⟨_, ⟨_, rfl, ?_, rfl, rfl, rfl⟩, ?_⟩ | refine ⟨_, rfl, ?_, rfl, ?_⟩ | refine ⟨_, (fun _ => rfl), rfl, ?_⟩ | refine ⟨(fun _ => rfl), ?_⟩ | refine ⟨rfl, ?_⟩ | refine Opt.a ?_ | fail)
    · show (0 + ((l.take (min c.n.toNat l.length)).map strV).length) * 16 ≤ 140737488355328
      rw [List.length_map, List.length_take]
      omega
    · exact hone _ ht.symm
    · have h : true = true → l.take (min c.n.toNat l.length) = [] := by assumption
      refine ⟨_, strV, hone _ (ht.symm.trans (h rfl))⟩
  · have h6 : ¬ c.kind = 6 := of_decide_eq_false (by assumption)
    have h7 : ¬ c.kind = 7 := of_decide_eq_false (by assumption)
    have h8 : c.kind = 8 := of_decide_eq_true (by assumption)
    rw [if_neg h6, if_neg h7, if_pos h8] at hone
    refine ⟨l.length, rfl, ⟨by omega, by omega⟩, ?_⟩
    repeat' (first | exact True.intro | refine ⟨_, LeL.refl _, ?_⟩ | refine ⟨_, _, _, LeL.refl _, ?_⟩ | (refine fun (b : Bool) hb => ?_; cases b <;> (first | exact absurd hb (by decide) | exact Bool.noConfusion (show true = false from hb) | exact Bool.noConfusion (show false = true from hb) | skip)) | (refine fun (hl : _ ≤ MAXL) => ?_) | refine And.intro (a := I64 _) ?_ ?_ | refine And.intro (a := _ ≤ 140737488355328) ?_ ?_ | refine ⟨_, ⟨rfl, rfl⟩, ?_⟩ | refine ⟨_, And.intro (a := I64 _) ?_ ⟨rfl, rfl⟩, ?_⟩ | refine ⟨_, _, ⟨rfl, rfl⟩, ?_⟩ | refine ⟨_, (fun _ => ⟨rfl, rfl⟩), ?_⟩ | refine And.intro (a := chkPend _ _ _ _ _ _) ?_ ?_ | refine And.intro (a := chkPast _ _ _ _ _ _ _ _) ?_ ?_ | refine ⟨⟨rfl, rfl⟩, ?_⟩ | refine And.intro (And.intro rfl rfl) ?_ | refine ⟨True.intro, ?_⟩ | refine ⟨_, ⟨_, rfl, ?_, rfl, rfl, rfl⟩, ?_⟩ | refine ⟨_, rfl, ?_, rfl, ?_⟩ | refine ⟨_, (fun _ => rfl), rfl, ?_⟩ | refine ⟨(fun _ => rfl), ?_⟩ | refine ⟨rfl, ?_⟩ | refine Opt.a ?_ | fail)
    refine ⟨Bs, strV, [Lib.itoa l.length], LeL.refl _, ?_⟩
    exact hone _ rfl
  · show (0 + (l.map strV).length) * 16 ≤ 140737488355328
    rw [List.length_map]
    omega
  · refine .inl ⟨l, rfl, rfl, ?_⟩
    repeat' (first | exact True.intro | refine ⟨_, LeL.refl _, ?_⟩ | refine ⟨_, _, _, LeL.refl _, ?_⟩ | (refine fun (b : Bool) hb => ?_; cases b <;> (first | exact absurd hb (by decide) | exact Bool.noConfusion (show true = false from hb) | exact Bool.noConfusion (show false = true from hb) | skip)) | (refine fun (hl : _ ≤ MAXL) => ?_) | refine And.intro (a := I64 _) ?_ ?_ | refine And.intro (a := _ ≤ 140737488355328) ?_ ?_ | refine ⟨_, ⟨rfl, rfl⟩, ?_⟩ | refine ⟨_, And.intro (a := I64 _) ?_ ⟨rfl, rfl⟩, ?_⟩ | refine ⟨_, _, ⟨rfl, rfl⟩, ?_⟩ | refine ⟨_, (fun _ => ⟨rfl, rfl⟩), ?_⟩ | refine And.intro (a := chkPend _ _ _ _ _ _) ?_ ?_ | refine And.intro (a := chkPast _ _ _ _ _ _ _ _) ?_ ?_ | refine ⟨⟨rfl, rfl⟩, ?_⟩ | refine And.intro (And.intro rfl rfl) ?_ | refine ⟨True.intro, ?_⟩ | refine ⟨_, ⟨_, rfl, ?_, rfl, rfl, rfl⟩, ?_⟩ | refine ⟨_, rfl, ?_, rfl, ?_⟩ | refine ⟨_, (fun _ => rfl), rfl, ?_⟩ | refine ⟨(fun _ => rfl), ?_⟩ | refine ⟨rfl, ?_⟩ | refine Opt.a ?_ | fail)
    have h6 : ¬ c.kind = 6 := of_decide_eq_false (by assumption)
    have h7 : c.kind = 7 := of_decide_eq_true (by assumption)
    rw [if_neg h6, if_pos h7] at hone
    exact hone _ rfl
  · have h : true = true → l = [] := by assumption
    refine .inr ⟨rfl, rfl, ?_⟩
    repeat' (first | exact True.intro | refine ⟨_, LeL.refl _, ?_⟩ | refine ⟨_, _, _, LeL.refl _, ?_⟩ | (refine fun (b : Bool) hb => ?_; cases b <;> (first | exact absurd hb (by decide) | exact Bool.noConfusion (show true = false from hb) | exact Bool.noConfusion (show false = true from hb) | skip)) | (refine fun (hl : _ ≤ MAXL) => ?_) | refine And.intro (a := I64 _) ?_ ?_ | refine And.intro (a := _ ≤ 140737488355328) ?_ ?_ | refine ⟨_, ⟨rfl, rfl⟩, ?_⟩ | refine ⟨_, And.intro (a := I64 _) ?_ ⟨rfl, rfl⟩, ?_⟩ | refine ⟨_, _, ⟨rfl, rfl⟩, ?_⟩ | refine ⟨_, (fun _ => ⟨rfl, rfl⟩), ?_⟩ | refine And.intro (a := chkPend _ _ _ _ _ _) ?_ ?_ | refine And.intro (a := chkPast _ _ _ _ _ _ _ _) ?_ ?_ | refine ⟨⟨rfl, rfl⟩, ?_⟩ | refine And.intro (And.intro rfl rfl) ?_ | refine ⟨True.intro, ?_⟩ | refine ⟨_, ⟨_, rfl, ?_, rfl, rfl, rfl⟩, ?_⟩ | refine ⟨_, rfl, ?_, rfl, ?_⟩ | refine ⟨_, (fun _ => rfl), rfl, ?_⟩ | refine ⟨(fun _ => rfl), ?_⟩ | refine ⟨rfl, ?_⟩ | refine Opt.a ?_ | fail)
    have h6 : ¬ c.kind = 6 := of_decide_eq_false (by assumption)
    have h7 : c.kind = 7 := of_decide_eq_true (by assumption)
    rw [if_neg h6, if_pos h7, h rfl] at hone
    exact ⟨_, strV, hone [] (by simp [onceB, Lib.compact, Lib.compactUpTo])⟩
  · show (0 + (l.map strV).length) * 16 ≤ 140737488355328
    rw [List.length_map]
    omega
  · refine .inl ⟨l, rfl, rfl, by omega, ?_⟩
    repeat' (first | exact True.intro | refine ⟨_, LeL.refl _, ?_⟩ | refine ⟨_, _, _, LeL.refl _, ?_⟩ | (refine fun (b : Bool) hb => ?_; cases b <;> (first | exact absurd hb (by decide) | exact Bool.noConfusion (show true = false from hb) | exact Bool.noConfusion (show false = true from hb) | skip)) | (refine fun (hl : _ ≤ MAXL) => ?_) | refine And.intro (a := I64 _) ?_ ?_ | refine And.intro (a := _ ≤ 140737488355328) ?_ ?_ | refine ⟨_, ⟨rfl, rfl⟩, ?_⟩ | refine ⟨_, And.intro (a := I64 _) ?_ ⟨rfl, rfl⟩, ?_⟩ | refine ⟨_, _, ⟨rfl, rfl⟩, ?_⟩ | refine ⟨_, (fun _ => ⟨rfl, rfl⟩), ?_⟩ | refine And.intro (a := chkPend _ _ _ _ _ _) ?_ ?_ | refine And.intro (a := chkPast _ _ _ _ _ _ _ _) ?_ ?_ | refine ⟨⟨rfl, rfl⟩, ?_⟩ | refine And.intro (And.intro rfl rfl) ?_ | refine ⟨True.intro, ?_⟩ | refine ⟨_, ⟨_, rfl, ?_, rfl, rfl, rfl⟩, ?_⟩ | refine ⟨_, rfl, ?_, rfl, ?_⟩ | refine ⟨_, (fun _ => rfl), rfl, ?_⟩ | refine ⟨(fun _ => rfl), ?_⟩ | refine ⟨rfl, ?_⟩ | refine Opt.a ?_ | fail)
    have h6 : c.kind = 6 := of_decide_eq_true (by assumption)
    rw [if_pos h6] at hone
    exact hone _ rfl
  · have h : true = true → l = [] := by assumption
    refine .inr ⟨rfl, rfl, ?_⟩
    repeat' (first | exact True.intro | refine ⟨_, LeL.refl _, ?_⟩ | refine ⟨_, _, _, LeL.refl _, ?_⟩ | (refine fun (b : Bool) hb => ?_; cases b <;> (first | exact absurd hb (by decide) | exact Bool.noConfusion (show true = false from hb) | exact Bool.noConfusion (show false = true from hb) | skip)) | (refine fun (hl : _ ≤ MAXL) => ?_) | refine And.intro (a := I64 _) ?_ ?_ | refine And.intro (a := _ ≤ 140737488355328) ?_ ?_ | refine ⟨_, ⟨rfl, rfl⟩, ?_⟩ | refine ⟨_, And.intro (a := I64 _) ?_ ⟨rfl, rfl⟩, ?_⟩ | refine ⟨_, _, ⟨rfl, rfl⟩, ?_⟩ | refine ⟨_, (fun _ => ⟨rfl, rfl⟩), ?_⟩ | refine And.intro (a := chkPend _ _ _ _ _ _) ?_ ?_ | refine And.intro (a := chkPast _ _ _ _ _ _ _ _) ?_ ?_ | refine ⟨⟨rfl, rfl⟩, ?_⟩ | refine And.intro (And.intro rfl rfl) ?_ | refine ⟨True.intro, ?_⟩ | refine ⟨_, ⟨_, rfl, ?_, rfl, rfl, rfl⟩, ?_⟩ | refine ⟨_, rfl, ?_, rfl, ?_⟩ | refine ⟨_, (fun _ => rfl), rfl, ?_⟩ | refine ⟨(fun _ => rfl), ?_⟩ | refine ⟨rfl, ?_⟩ | refine Opt.a ?_ | fail)
    have h6 : c.kind = 6 := of_decide_eq_true (by assumption)
    rw [if_pos h6, h rfl] at hone
    exact ⟨_, strV, hone [] (by simp [sortB])⟩
end Gv
namespace Gv
variable [Glob] [Laid]
/-- What line.Bytes comes to: the lines so far, their bytes' number. -/
def bytesGo : Nat → List Bs → Int
  | _, [] => 0
  | n, s :: r => if s.contains 10 = true then 4 else if (s.length : Int) > 4000 - n - 1 then 2 else bytesGo (n + s.length + 1) r
def lineBytes (l : List Bs) : Bs × Int := if bytesGo 0 l = 0 then (put l, 0) else ([], bytesGo 0 l)
theorem bytesGo_at {l : List Bs} {i : Nat} (h : bytesGo (put (l.take i)).length (l.drop i) = bytesGo 0 l) (hi : i < l.length) :
    bytesGo 0 l = if l[i].contains 10 = true then 4 else if (l[i].length : Int) > 4000 - (put (l.take i)).length - 1 then 2 else bytesGo (put (l.take (i + 1))).length (l.drop (i + 1)) := by
  rw [← h, List.drop_eq_getElem_cons hi, bytesGo, put_take_succ hi]
  simp only [List.length_append, List.length_cons, List.length_nil, Nat.add_assoc]
theorem bytesGo_ok : ∀ {l : List Bs} {n : Nat}, bytesGo n l = 0 → NoNl l ∧ (n ≤ 4000 → n + (put l).length ≤ 4000)
  | [], n, h => ⟨(fun s hs => by cases hs), (fun h => by simpa [put] using h)⟩
  | s :: r, n, h => by
    unfold bytesGo at h
    split at h
    · cases h
    · rename_i h1
      split at h
      · cases h
      · rename_i h2
        obtain ⟨h3, h4⟩ := bytesGo_ok h
        refine ⟨fun x hx => ?_, fun hn => ?_⟩
        · rcases List.mem_cons.1 hx with rfl | hx
          · simpa using h1
          · exact h3 x hx
        · have := h4 (by omega)
          simp only [put, List.length_append, List.length_cons]
          omega
theorem bytes_ca : callable Tryz.prog 124 = true := by kernel_rfl
def bytes_S : Spec := fun args K => ∃ l : List Bs, args = [.sl strV l] ∧ (∀ s ∈ l, s.length ≤ reachBytes) ∧ K (.tup [.sl byteV (lineBytes l).1, .int .i64 (lineBytes l).2])
noncomputable def bytes_lib : List (Nat × Spec) := [(180, containsB_S)]
noncomputable def bytes_fns : List (Nat × FnI) := []
noncomputable def bytes_prims : List (Nat × PSpec) := []
theorem bytes_E : EnvOK ⟨Tryz.prog, tys, bytes_lib, bytes_fns, bytes_prims, []⟩ := env_ok mixed0 tys0 (.cons containsB_ca containsB_ok .nil) .nil .nil rfl
set_option maxHeartbeats 4000000 in
theorem bytes_ok : Pure Tryz.prog 124 bytes_S := by
  refine pure_by bytes_E 6 (fi := {fn := Tryz.f124, hooks := [], draws := []}) ⟨Tryz.func124, by kernel_rfl, by kernel_rfl⟩ ?_
  rintro _ K ⟨l, rfl, hz, hK⟩
  replace hK : ∀ r, r = .tup [.sl byteV (lineBytes l).1, .int .i64 (lineBytes l).2] → K r := fun r h => h ▸ hK
  refine fun (hl : _ ≤ MAXL) => ?_
  conv => whnf
  refine loop_live [7, 8] (σ := Nat) (fun i => [(4, .own 0), (9, .int .i64 i)]) (fun i => [.row 1 ((put (l.take i)).map byteV)]) (fun i => i ≤ l.length ∧ bytesGo (put (l.take i)).length (l.drop i) = bytesGo 0 l ∧ (put (l.take i)).length ≤ 4000) (fun i => l.length - i) 0 ?_
  conv => whnf
  refine ⟨(by (refine wk_sel [none] rfl rfl ?_ ?_ <;> (repeat' (first | exact True.intro | exact rfl | exact Or.inl rfl | exact Or.inr rfl | refine And.intro ?_ ?_ | fail)))), ⟨Nat.zero_le _, rfl, by simp [put]⟩, fun i hi => ?_⟩
  obtain ⟨hi, hg, hs⟩ := hi
  repeat' (first | exact True.intro | refine ⟨_, LeL.refl _, ?_⟩ | refine ⟨_, _, _, LeL.refl _, ?_⟩ | (refine fun (b : Bool) hb => ?_; cases b <;> (first | exact absurd hb (by decide) | exact Bool.noConfusion (show true = false from hb) | exact Bool.noConfusion (show false = true from hb) | skip)) | (refine fun (hl : _ ≤ MAXL) => ?_) | refine And.intro (a := I64 _) ?_ ?_ | refine And.intro (a := _ ≤ 140737488355328) ?_ ?_ | refine ⟨_, ⟨rfl, rfl⟩, ?_⟩ | refine ⟨_, And.intro (a := I64 _) ?_ ⟨rfl, rfl⟩, ?_⟩ | refine ⟨_, _, ⟨rfl, rfl⟩, ?_⟩ | refine ⟨_, (fun _ => ⟨rfl, rfl⟩), ?_⟩ | refine And.intro (a := chkPend _ _ _ _ _ _) ?_ ?_ | refine And.intro (a := chkPast _ _ _ _ _ _ _ _) ?_ ?_ | refine ⟨⟨rfl, rfl⟩, ?_⟩ | refine And.intro (And.intro rfl rfl) ?_ | refine ⟨True.intro, ?_⟩ | refine ⟨_, ⟨_, rfl, ?_, rfl, rfl, rfl⟩, ?_⟩ | refine ⟨_, rfl, ?_, rfl, ?_⟩ | refine ⟨_, (fun _ => rfl), rfl, ?_⟩ | refine ⟨(fun _ => rfl), ?_⟩ | refine ⟨rfl, ?_⟩ | refine Opt.a ?_ | fail)
  · refine hK _ ?_
    have e : l.take i = l := List.take_of_length_le (by grind)
    have e2 : l.drop i = [] := List.drop_eq_nil_of_le (by grind)
    rw [e2, bytesGo] at hg
    unfold lineBytes
    rw [← hg, e]
    rfl
  · grind
  · exact Nat.le_trans (hz _ (List.getElem_mem (by grind))) (by decide)
  have hi2 : i < l.length := by grind
  have ha := bytesGo_at hg hi2
  have ht := @put_take_succ l i hi2
  refine ⟨l[i], 10, rfl, ?_⟩
  repeat' (first | exact True.intro | refine ⟨_, LeL.refl _, ?_⟩ | refine ⟨_, _, _, LeL.refl _, ?_⟩ | (refine fun (b : Bool) hb => ?_; cases b <;> (first | exact absurd hb (by decide) | exact Bool.noConfusion (show true = false from hb) | exact Bool.noConfusion (show false = true from hb) | skip)) | (refine fun (hl : _ ≤ MAXL) => ?_) | refine And.intro (a := I64 _) ?_ ?_ | refine And.intro (a := _ ≤ 140737488355328) ?_ ?_ | refine ⟨_, ⟨rfl, rfl⟩, ?_⟩ | refine ⟨_, And.intro (a := I64 _) ?_ ⟨rfl, rfl⟩, ?_⟩ | refine ⟨_, _, ⟨rfl, rfl⟩, ?_⟩ | refine ⟨_, (fun _ => ⟨rfl, rfl⟩), ?_⟩ | refine And.intro (a := chkPend _ _ _ _ _ _) ?_ ?_ | refine And.intro (a := chkPast _ _ _ _ _ _ _ _) ?_ ?_ | refine ⟨⟨rfl, rfl⟩, ?_⟩ | refine And.intro (And.intro rfl rfl) ?_ | refine ⟨True.intro, ?_⟩ | refine ⟨_, ⟨_, rfl, ?_, rfl, rfl, rfl⟩, ?_⟩ | refine ⟨_, rfl, ?_, rfl, ?_⟩ | refine ⟨_, (fun _ => rfl), rfl, ?_⟩ | refine ⟨(fun _ => rfl), ?_⟩ | refine ⟨rfl, ?_⟩ | refine Opt.a ?_ | refine ⟨UInt8, byteV, ?_⟩ | fail)
  · (first | omega | (unfold I64; omega) | (simp only [List.length_append, List.length_map, List.length_cons, List.length_nil, Nat.mul_one, Int.ofNat_eq_natCast] at *; omega) | (dsimp only at *; omega) | (unfold I64; dsimp only at *; omega) | (unfold I64; grind) | grind)
  · (first | omega | (unfold I64; omega) | (simp only [List.length_append, List.length_map, List.length_cons, List.length_nil, Nat.mul_one, Int.ofNat_eq_natCast] at *; omega) | (dsimp only at *; omega) | (unfold I64; dsimp only at *; omega) | (unfold I64; grind) | grind)
  · simp only [List.length_append, List.length_map, List.length_cons, List.length_nil, Nat.mul_one] at *
    grind
  · simp only [List.length_append, List.length_map, List.length_cons, List.length_nil, Nat.mul_one] at *
    grind
  · (first | omega | (unfold I64; omega) | (simp only [List.length_append, List.length_map, List.length_cons, List.length_nil, Nat.mul_one, Int.ofNat_eq_natCast] at *; omega) | (dsimp only at *; omega) | (unfold I64; dsimp only at *; omega) | (unfold I64; grind) | grind)
  · simp only [List.length_map] at *
    have h1 : ¬ l[i].contains 10 = true := by grind
    have h2 : ¬ (l[i].length : Int) > 4000 - (put (l.take i)).length - 1 := by grind
    rw [if_neg h1, if_neg h2] at ha
    refine ⟨i + 1, ?_, ⟨by omega, ha.symm, ?_⟩, by omega⟩
    · refine wk_sel [some 3] rfl rfl ⟨?_, trivial⟩ ?_
      · rw [ht, List.map_append, List.map_append, ← List.append_assoc]
        exact rfl
      · (repeat' (first | exact True.intro | exact rfl | exact Or.inl rfl | exact Or.inr rfl | refine And.intro ?_ ?_ | fail))
    · rw [ht]
      simp only [List.length_append, List.length_cons, List.length_nil]
      omega
  · simp only [List.length_map] at *
    refine hK _ ?_
    have h1 : ¬ l[i].contains 10 = true := by grind
    have h2 : (l[i].length : Int) > 4000 - (put (l.take i)).length - 1 := by grind
    rw [if_neg h1, if_pos h2] at ha
    unfold lineBytes
    rw [ha]
    rfl
  · refine hK _ ?_
    have h1 : l[i].contains 10 = true := by assumption
    rw [if_pos h1] at ha
    unfold lineBytes
    rw [ha]
    rfl
end Gv
namespace Gv
variable [Glob] [Laid] [Nums]
/-- What a line makes of files. -/
def shellLine (l : List FileS) (x : LineS) : Bs × Int := if checkLine x ≠ 0 then ([], checkLine x) else if (gatherS l x.frm).2 ≠ 0 then ([], (gatherS l x.frm).2) else lineBytes (doLines x.cmds (linesOf (gatherS l x.frm).1))
theorem checkLine_ok {x : LineS} (h : checkLine x = 0) : x.cmds.length ≤ 6 ∧ ∀ c ∈ x.cmds, checkCmd c = 0 := by
  unfold checkLine at h
  split at h
  · cases h
  · split at h
    · cases h
    · rename_i h1 h2
      exact ⟨by omega, firstBad_at h⟩
theorem lineF_ca : callable Tryz.prog 47 = true := by kernel_rfl
def lineF_S : Spec := fun args K => ∃ (l : List FileS) (f : List Bs) (c : List Cmd) (t : Bs), args = [.sl fileV l, .agg [.sl strV f, .sl cmdV c, .str t]] ∧ K (.tup [.sl byteV (shellLine l ⟨f, c, t⟩).1, .int .i64 (shellLine l ⟨f, c, t⟩).2])
noncomputable def lineF_lib : List (Nat × Spec) := [(42, cline_S), (85, gather_S), (123, linesL_S), (98, linesC_S), (124, bytes_S)]
noncomputable def lineF_fns : List (Nat × FnI) := []
noncomputable def lineF_prims : List (Nat × PSpec) := []
theorem lineF_E : EnvOK ⟨Tryz.prog, tys, lineF_lib, lineF_fns, lineF_prims, []⟩ := env_ok mixed0 tys0 (.cons cline_ca cline_ok (.cons gather_ca gather_ok (.cons linesL_ca linesL_ok (.cons linesC_ca linesC_ok (.cons bytes_ca bytes_ok .nil))))) .nil .nil rfl
set_option maxHeartbeats 8000000 in
theorem lineF_ok : Pure Tryz.prog 47 lineF_S := by
  refine pure_by lineF_E 6 (fi := {fn := Tryz.f47, hooks := [], draws := []}) ⟨Tryz.func47, by kernel_rfl, by kernel_rfl⟩ ?_
  rintro _ K ⟨l, f, c, t, rfl, hK⟩
  replace hK : ∀ r, r = .tup [.sl byteV (shellLine l ⟨f, c, t⟩).1, .int .i64 (shellLine l ⟨f, c, t⟩).2] → K r := fun r h => h ▸ hK
  have hone : ∀ r : Bs × Int, shellLine l ⟨f, c, t⟩ = r → K (.tup [.sl byteV r.1, .int .i64 r.2]) := fun r h => hK _ (by rw [h])
  unfold shellLine at hone
  dsimp only at hone
  refine ⟨f, c, t, rfl, ?_⟩
  obtain ⟨e, he⟩ : ∃ e, checkLine ⟨f, c, t⟩ = e := ⟨_, rfl⟩
  rw [he] at hone ⊢
  repeat' (first | exact True.intro | refine ⟨_, LeL.refl _, ?_⟩ | refine ⟨_, _, _, LeL.refl _, ?_⟩ | (refine fun (b : Bool) hb => ?_; cases b <;> (first | exact absurd hb (by decide) | exact Bool.noConfusion (show true = false from hb) | exact Bool.noConfusion (show false = true from hb) | skip)) | (refine fun (hl : _ ≤ MAXL) => ?_) | refine And.intro (a := I64 _) ?_ ?_ | refine And.intro (a := _ ≤ 140737488355328) ?_ ?_ | refine ⟨_, ⟨rfl, rfl⟩, ?_⟩ | refine ⟨_, And.intro (a := I64 _) ?_ ⟨rfl, rfl⟩, ?_⟩ | refine ⟨_, _, ⟨rfl, rfl⟩, ?_⟩ | refine ⟨_, (fun _ => ⟨rfl, rfl⟩), ?_⟩ | refine And.intro (a := chkPend _ _ _ _ _ _) ?_ ?_ | refine And.intro (a := chkPast _ _ _ _ _ _ _ _) ?_ ?_ | refine ⟨⟨rfl, rfl⟩, ?_⟩ | refine And.intro (And.intro rfl rfl) ?_ | refine ⟨True.intro, ?_⟩ | refine ⟨_, ⟨_, rfl, ?_, rfl, rfl, rfl⟩, ?_⟩ | refine ⟨_, rfl, ?_, rfl, ?_⟩ | refine ⟨_, (fun _ => rfl), rfl, ?_⟩ | refine ⟨(fun _ => rfl), ?_⟩ | refine ⟨rfl, ?_⟩ | refine Opt.a ?_ | fail)
  rotate_left
  · have h0 : ¬ e = 0 := by
      have h : (!decide (e = 0)) = true := by assumption
      simpa using h
    rw [if_pos h0] at hone
    repeat' (first | exact True.intro | refine ⟨_, LeL.refl _, ?_⟩ | refine ⟨_, _, _, LeL.refl _, ?_⟩ | (refine fun (b : Bool) hb => ?_; cases b <;> (first | exact absurd hb (by decide) | exact Bool.noConfusion (show true = false from hb) | exact Bool.noConfusion (show false = true from hb) | skip)) | (refine fun (hl : _ ≤ MAXL) => ?_) | refine And.intro (a := I64 _) ?_ ?_ | refine And.intro (a := _ ≤ 140737488355328) ?_ ?_ | refine ⟨_, ⟨rfl, rfl⟩, ?_⟩ | refine ⟨_, And.intro (a := I64 _) ?_ ⟨rfl, rfl⟩, ?_⟩ | refine ⟨_, _, ⟨rfl, rfl⟩, ?_⟩ | refine ⟨_, (fun _ => ⟨rfl, rfl⟩), ?_⟩ | refine And.intro (a := chkPend _ _ _ _ _ _) ?_ ?_ | refine And.intro (a := chkPast _ _ _ _ _ _ _ _) ?_ ?_ | refine ⟨⟨rfl, rfl⟩, ?_⟩ | refine And.intro (And.intro rfl rfl) ?_ | refine ⟨True.intro, ?_⟩ | refine ⟨_, ⟨_, rfl, ?_, rfl, rfl, rfl⟩, ?_⟩ | refine ⟨_, rfl, ?_, rfl, ?_⟩ | refine ⟨_, (fun _ => rfl), rfl, ?_⟩ | refine ⟨(fun _ => rfl), ?_⟩ | refine ⟨rfl, ?_⟩ | refine Opt.a ?_ | fail)
    exact ⟨_, byteV, hone _ rfl⟩
  have h0 : e = 0 := by
    have h : (!decide (e = 0)) = false := by assumption
    simpa using h
  subst h0
  rw [if_neg (by simp)] at hone
  obtain ⟨hc6, hcc⟩ := checkLine_ok he
  dsimp only at hc6 hcc
  refine ⟨l, f, rfl, ?_⟩
  have hgl := gatherS_len l f
  obtain ⟨g, hg⟩ : ∃ g, gatherS l f = g := ⟨_, rfl⟩
  rw [hg] at hone hgl ⊢
  obtain ⟨b, e⟩ := g
  dsimp only at hone hgl
  repeat' (first | exact True.intro | refine ⟨_, LeL.refl _, ?_⟩ | refine ⟨_, _, _, LeL.refl _, ?_⟩ | (refine fun (b : Bool) hb => ?_; cases b <;> (first | exact absurd hb (by decide) | exact Bool.noConfusion (show true = false from hb) | exact Bool.noConfusion (show false = true from hb) | skip)) | (refine fun (hl : _ ≤ MAXL) => ?_) | refine And.intro (a := I64 _) ?_ ?_ | refine And.intro (a := _ ≤ 140737488355328) ?_ ?_ | refine ⟨_, ⟨rfl, rfl⟩, ?_⟩ | refine ⟨_, And.intro (a := I64 _) ?_ ⟨rfl, rfl⟩, ?_⟩ | refine ⟨_, _, ⟨rfl, rfl⟩, ?_⟩ | refine ⟨_, (fun _ => ⟨rfl, rfl⟩), ?_⟩ | refine And.intro (a := chkPend _ _ _ _ _ _) ?_ ?_ | refine And.intro (a := chkPast _ _ _ _ _ _ _ _) ?_ ?_ | refine ⟨⟨rfl, rfl⟩, ?_⟩ | refine And.intro (And.intro rfl rfl) ?_ | refine ⟨True.intro, ?_⟩ | refine ⟨_, ⟨_, rfl, ?_, rfl, rfl, rfl⟩, ?_⟩ | refine ⟨_, rfl, ?_, rfl, ?_⟩ | refine ⟨_, (fun _ => rfl), rfl, ?_⟩ | refine ⟨(fun _ => rfl), ?_⟩ | refine ⟨rfl, ?_⟩ | refine Opt.a ?_ | fail)
  rotate_left
  · have h0 : ¬ e = 0 := by
      have h : (!decide (e = 0)) = true := by assumption
      simpa using h
    rw [if_pos h0] at hone
    repeat' (first | exact True.intro | refine ⟨_, LeL.refl _, ?_⟩ | refine ⟨_, _, _, LeL.refl _, ?_⟩ | (refine fun (b : Bool) hb => ?_; cases b <;> (first | exact absurd hb (by decide) | exact Bool.noConfusion (show true = false from hb) | exact Bool.noConfusion (show false = true from hb) | skip)) | (refine fun (hl : _ ≤ MAXL) => ?_) | refine And.intro (a := I64 _) ?_ ?_ | refine And.intro (a := _ ≤ 140737488355328) ?_ ?_ | refine ⟨_, ⟨rfl, rfl⟩, ?_⟩ | refine ⟨_, And.intro (a := I64 _) ?_ ⟨rfl, rfl⟩, ?_⟩ | refine ⟨_, _, ⟨rfl, rfl⟩, ?_⟩ | refine ⟨_, (fun _ => ⟨rfl, rfl⟩), ?_⟩ | refine And.intro (a := chkPend _ _ _ _ _ _) ?_ ?_ | refine And.intro (a := chkPast _ _ _ _ _ _ _ _) ?_ ?_ | refine ⟨⟨rfl, rfl⟩, ?_⟩ | refine And.intro (And.intro rfl rfl) ?_ | refine ⟨True.intro, ?_⟩ | refine ⟨_, ⟨_, rfl, ?_, rfl, rfl, rfl⟩, ?_⟩ | refine ⟨_, rfl, ?_, rfl, ?_⟩ | refine ⟨_, (fun _ => rfl), rfl, ?_⟩ | refine ⟨(fun _ => rfl), ?_⟩ | refine ⟨rfl, ?_⟩ | refine Opt.a ?_ | fail)
    exact ⟨_, byteV, hone _ rfl⟩
  have h0 : e = 0 := by
    have h : (!decide (e = 0)) = false := by assumption
    simpa using h
  subst h0
  rw [if_neg (by simp)] at hone
  refine ⟨b, rfl, by omega, ?_⟩
  have hpb := put_lines b
  have hdp := doLines_put hcc (s := linesOf b) (by omega) (by omega)
  repeat' (first | exact True.intro | refine ⟨_, LeL.refl _, ?_⟩ | refine ⟨_, _, _, LeL.refl _, ?_⟩ | (refine fun (b : Bool) hb => ?_; cases b <;> (first | exact absurd hb (by decide) | exact Bool.noConfusion (show true = false from hb) | exact Bool.noConfusion (show false = true from hb) | skip)) | (refine fun (hl : _ ≤ MAXL) => ?_) | refine And.intro (a := I64 _) ?_ ?_ | refine And.intro (a := _ ≤ 140737488355328) ?_ ?_ | refine ⟨_, ⟨rfl, rfl⟩, ?_⟩ | refine ⟨_, And.intro (a := I64 _) ?_ ⟨rfl, rfl⟩, ?_⟩ | refine ⟨_, _, ⟨rfl, rfl⟩, ?_⟩ | refine ⟨_, (fun _ => ⟨rfl, rfl⟩), ?_⟩ | refine And.intro (a := chkPend _ _ _ _ _ _) ?_ ?_ | refine And.intro (a := chkPast _ _ _ _ _ _ _ _) ?_ ?_ | refine ⟨⟨rfl, rfl⟩, ?_⟩ | refine And.intro (And.intro rfl rfl) ?_ | refine ⟨True.intro, ?_⟩ | refine ⟨_, ⟨_, rfl, ?_, rfl, rfl, rfl⟩, ?_⟩ | refine ⟨_, rfl, ?_, rfl, ?_⟩ | refine ⟨_, (fun _ => rfl), rfl, ?_⟩ | refine ⟨(fun _ => rfl), ?_⟩ | refine ⟨rfl, ?_⟩ | refine Opt.a ?_ | fail)
  conv => whnf
  refine loop_live [30, 31] (σ := Nat × List Bs) (fun s => [(32, .int .i64 s.1), (9, .sl strV s.2)]) (fun s => [.box [.sl strV f, .sl cmdV c, .str t]]) (fun s => s.1 ≤ c.length ∧ s.2 = doLines (c.take s.1) (linesOf b)) (fun s => c.length - s.1) (0, linesOf b) ?_
  conv => whnf
  refine ⟨(by (refine wk_auto ?_; refine Sel4.mk rfl rfl ?_ ?_ <;> (repeat' (first | exact True.intro | exact rfl | exact Or.inl rfl | exact Or.inr rfl | refine And.intro ?_ ?_ | fail)))), ⟨Nat.zero_le _, rfl⟩, fun s hs => ?_⟩
  obtain ⟨i, s⟩ := s
  obtain ⟨hi, hs⟩ := hs
  dsimp only at hi hs
  have hsp : (put s).length ≤ 5000 := by
    have := hdp i hi
    rw [hs]; omega
  have hsl := put_len (l := s) (n := 5000) hsp
  repeat' (first | exact True.intro | refine ⟨_, LeL.refl _, ?_⟩ | refine ⟨_, _, _, LeL.refl _, ?_⟩ | (refine fun (b : Bool) hb => ?_; cases b <;> (first | exact absurd hb (by decide) | exact Bool.noConfusion (show true = false from hb) | exact Bool.noConfusion (show false = true from hb) | skip)) | (refine fun (hl : _ ≤ MAXL) => ?_) | refine And.intro (a := I64 _) ?_ ?_ | refine And.intro (a := _ ≤ 140737488355328) ?_ ?_ | refine ⟨_, ⟨rfl, rfl⟩, ?_⟩ | refine ⟨_, And.intro (a := I64 _) ?_ ⟨rfl, rfl⟩, ?_⟩ | refine ⟨_, _, ⟨rfl, rfl⟩, ?_⟩ | refine ⟨_, (fun _ => ⟨rfl, rfl⟩), ?_⟩ | refine And.intro (a := chkPend _ _ _ _ _ _) ?_ ?_ | refine And.intro (a := chkPast _ _ _ _ _ _ _ _) ?_ ?_ | refine ⟨⟨rfl, rfl⟩, ?_⟩ | refine And.intro (And.intro rfl rfl) ?_ | refine ⟨True.intro, ?_⟩ | refine ⟨_, ⟨_, rfl, ?_, rfl, rfl, rfl⟩, ?_⟩ | refine ⟨_, rfl, ?_, rfl, ?_⟩ | refine ⟨_, (fun _ => rfl), rfl, ?_⟩ | refine ⟨(fun _ => rfl), ?_⟩ | refine ⟨rfl, ?_⟩ | refine Opt.a ?_ | fail)
  · have hge : ¬ (i : Int) < (c.length : Int) := of_decide_eq_false (by assumption)
    have ei : c.take i = c := List.take_of_length_le (by omega)
    rw [ei] at hs
    repeat' (first | exact True.intro | refine ⟨_, LeL.refl _, ?_⟩ | refine ⟨_, _, _, LeL.refl _, ?_⟩ | (refine fun (b : Bool) hb => ?_; cases b <;> (first | exact absurd hb (by decide) | exact Bool.noConfusion (show true = false from hb) | exact Bool.noConfusion (show false = true from hb) | skip)) | (refine fun (hl : _ ≤ MAXL) => ?_) | refine And.intro (a := I64 _) ?_ ?_ | refine And.intro (a := _ ≤ 140737488355328) ?_ ?_ | refine ⟨_, ⟨rfl, rfl⟩, ?_⟩ | refine ⟨_, And.intro (a := I64 _) ?_ ⟨rfl, rfl⟩, ?_⟩ | refine ⟨_, _, ⟨rfl, rfl⟩, ?_⟩ | refine ⟨_, (fun _ => ⟨rfl, rfl⟩), ?_⟩ | refine And.intro (a := chkPend _ _ _ _ _ _) ?_ ?_ | refine And.intro (a := chkPast _ _ _ _ _ _ _ _) ?_ ?_ | refine ⟨⟨rfl, rfl⟩, ?_⟩ | refine And.intro (And.intro rfl rfl) ?_ | refine ⟨True.intro, ?_⟩ | refine ⟨_, ⟨_, rfl, ?_, rfl, rfl, rfl⟩, ?_⟩ | refine ⟨_, rfl, ?_, rfl, ?_⟩ | refine ⟨_, (fun _ => rfl), rfl, ?_⟩ | refine ⟨(fun _ => rfl), ?_⟩ | refine ⟨rfl, ?_⟩ | refine Opt.a ?_ | fail)
    refine ⟨s, rfl, fun x hx => by have := put_el hx; unfold reachBytes; omega, ?_⟩
    repeat' (first | exact True.intro | refine ⟨_, LeL.refl _, ?_⟩ | refine ⟨_, _, _, LeL.refl _, ?_⟩ | (refine fun (b : Bool) hb => ?_; cases b <;> (first | exact absurd hb (by decide) | exact Bool.noConfusion (show true = false from hb) | exact Bool.noConfusion (show false = true from hb) | skip)) | (refine fun (hl : _ ≤ MAXL) => ?_) | refine And.intro (a := I64 _) ?_ ?_ | refine And.intro (a := _ ≤ 140737488355328) ?_ ?_ | refine ⟨_, ⟨rfl, rfl⟩, ?_⟩ | refine ⟨_, And.intro (a := I64 _) ?_ ⟨rfl, rfl⟩, ?_⟩ | refine ⟨_, _, ⟨rfl, rfl⟩, ?_⟩ | refine ⟨_, (fun _ => ⟨rfl, rfl⟩), ?_⟩ | refine And.intro (a := chkPend _ _ _ _ _ _) ?_ ?_ | refine And.intro (a := chkPast _ _ _ _ _ _ _ _) ?_ ?_ | refine ⟨⟨rfl, rfl⟩, ?_⟩ | refine And.intro (And.intro rfl rfl) ?_ | refine ⟨True.intro, ?_⟩ | refine ⟨_, ⟨_, rfl, ?_, rfl, rfl, rfl⟩, ?_⟩ | refine ⟨_, rfl, ?_, rfl, ?_⟩ | refine ⟨_, (fun _ => rfl), rfl, ?_⟩ | refine ⟨(fun _ => rfl), ?_⟩ | refine ⟨rfl, ?_⟩ | refine Opt.a ?_ | fail)
    exact hone _ (by rw [hs])
  · have h := of_decide_eq_true (by assumption : decide ((i : Int) < (c.length : Int)) = true)
    show i < c.length
    omega
  have hlt : i < c.length := by
    have h := of_decide_eq_true (by assumption : decide ((i : Int) < (c.length : Int)) = true)
    omega
  conv => whnf
  refine ⟨c[i], s, rfl, ⟨hcc _ (List.getElem_mem hlt), by omega, fun x hx => by have := put_el hx; omega⟩, ?_⟩
  repeat' (first | exact True.intro | refine ⟨_, LeL.refl _, ?_⟩ | refine ⟨_, _, _, LeL.refl _, ?_⟩ | (refine fun (b : Bool) hb => ?_; cases b <;> (first | exact absurd hb (by decide) | exact Bool.noConfusion (show true = false from hb) | exact Bool.noConfusion (show false = true from hb) | skip)) | (refine fun (hl : _ ≤ MAXL) => ?_) | refine And.intro (a := I64 _) ?_ ?_ | refine And.intro (a := _ ≤ 140737488355328) ?_ ?_ | refine ⟨_, ⟨rfl, rfl⟩, ?_⟩ | refine ⟨_, And.intro (a := I64 _) ?_ ⟨rfl, rfl⟩, ?_⟩ | refine ⟨_, _, ⟨rfl, rfl⟩, ?_⟩ | refine ⟨_, (fun _ => ⟨rfl, rfl⟩), ?_⟩ | refine And.intro (a := chkPend _ _ _ _ _ _) ?_ ?_ | refine And.intro (a := chkPast _ _ _ _ _ _ _ _) ?_ ?_ | refine ⟨⟨rfl, rfl⟩, ?_⟩ | refine And.intro (And.intro rfl rfl) ?_ | refine ⟨True.intro, ?_⟩ | refine ⟨_, ⟨_, rfl, ?_, rfl, rfl, rfl⟩, ?_⟩ | refine ⟨_, rfl, ?_, rfl, ?_⟩ | refine ⟨_, (fun _ => rfl), rfl, ?_⟩ | refine ⟨(fun _ => rfl), ?_⟩ | refine ⟨rfl, ?_⟩ | refine Opt.a ?_ | fail)
  · unfold I64
    dsimp only
    omega
  refine ⟨(i + 1, linesC c[i] s), (by (refine wk_auto ?_; refine Sel4.mk rfl rfl ?_ ?_ <;> (repeat' (first | exact True.intro | exact rfl | exact Or.inl rfl | exact Or.inr rfl | refine And.intro ?_ ?_ | fail)))), ⟨hlt, ?_⟩, by show c.length - (i + 1) < c.length - i; omega⟩
  show linesC c[i] s = _
  rw [doLines_take hlt, hs]
end Gv
namespace Gv
variable [Glob] [Laid]
theorem concatB_ca : callable Tryz.prog 296 = true := by kernel_rfl
def concatB_S : Spec := fun args K => ∃ a : List (List UInt8), args = [.sl blV a] ∧ a.flatten.length ≤ 1000000 ∧ K (.sl byteV a.flatten)
noncomputable def concatB_lib : List (Nat × Spec) := []
noncomputable def concatB_fns : List (Nat × FnI) := [(315, {fn := Tryz.f315, hooks := [], draws := []})]
noncomputable def concatB_prims : List (Nat × PSpec) := []
theorem concatB_E : EnvOK ⟨Tryz.prog, tys, concatB_lib, concatB_fns, concatB_prims, []⟩ := env_ok mixed0 tys0 .nil (.cons (by kernel_rfl) ⟨Tryz.func315, by kernel_rfl, by kernel_rfl⟩ .nil) .nil rfl
set_option maxHeartbeats 4000000 in
theorem concatB_ok : Pure Tryz.prog 296 concatB_S := by
  refine pure_by concatB_E 6 (fi := {fn := Tryz.f296, hooks := [10], draws := []}) ⟨Tryz.func296, by kernel_rfl, by kernel_rfl⟩ ?_
  rintro _ K ⟨x, rfl, hx, hK⟩
  replace hK : ∀ p, p = .sl byteV x.flatten → K p := fun r h => h ▸ hK
  obtain ⟨f, hf⟩ : ∃ f : Nat → List UInt8, ∀ i, f i = (x.take i).flatten := ⟨_, fun _ => rfl⟩
  have f0 : f 0 = [] := by simp [hf]
  have fS : ∀ i (h : i < x.length), f (i + 1) = f i ++ x[i] := fun i h => by
    rw [hf, hf, List.take_succ_eq_append_getElem h]
    simp only [List.flatten_append, List.flatten_cons, List.flatten_nil, List.append_nil]
  have fN : ∀ i, x.length ≤ i → f i = x.flatten := fun i h => by simp [hf, List.take_of_length_le h]
  have fl : ∀ i, (f i).length ≤ 1000000 := fun i => by
    rw [← List.take_append_drop i x] at hx
    simp only [List.flatten_append, List.length_append] at hx
    rw [hf]; omega
  clear hf
  refine fun (hl : _ ≤ MAXL) => ?_
  conv => whnf
  refine loop_intro (σ := Nat) (fun i => [(0, .sl blV x), (2, .nil), (9, .sl blV x), (10, .int .i64 x.length), (11, .int .i64 i), (3, .int .i64 ((f i).length : Nat))]) (fun _ => []) (fun i => i ≤ x.length) (fun i => x.length - i) 0 (wk_sel [] rfl rfl trivial ?_) (Nat.zero_le _) ?_
  · simp only [f0]
    (repeat' (first | exact True.intro | exact rfl | exact Or.inl rfl | exact Or.inr rfl | refine And.intro ?_ ?_ | fail))
  intro i hi
  have hs := fl i
  repeat' (first | exact True.intro | refine ⟨_, LeL.refl _, ?_⟩ | refine ⟨_, _, _, LeL.refl _, ?_⟩ | (refine fun (b : Bool) hb => ?_; cases b <;> (first | exact absurd hb (by decide) | exact Bool.noConfusion (show true = false from hb) | exact Bool.noConfusion (show false = true from hb) | skip)) | (refine fun (hl : _ ≤ MAXL) => ?_) | refine And.intro (a := I64 _) ?_ ?_ | refine And.intro (a := _ ≤ 140737488355328) ?_ ?_ | refine ⟨_, ⟨rfl, rfl⟩, ?_⟩ | refine ⟨_, And.intro (a := I64 _) ?_ ⟨rfl, rfl⟩, ?_⟩ | refine ⟨_, _, ⟨rfl, rfl⟩, ?_⟩ | refine ⟨_, (fun _ => ⟨rfl, rfl⟩), ?_⟩ | refine And.intro (a := chkPend _ _ _ _ _ _) ?_ ?_ | refine And.intro (a := chkPast _ _ _ _ _ _ _ _) ?_ ?_ | refine ⟨⟨rfl, rfl⟩, ?_⟩ | refine And.intro (And.intro rfl rfl) ?_ | refine ⟨True.intro, ?_⟩ | refine ⟨_, ⟨_, rfl, ?_, rfl, rfl, rfl⟩, ?_⟩ | refine ⟨_, rfl, ?_, rfl, ?_⟩ | refine ⟨_, (fun _ => rfl), rfl, ?_⟩ | refine ⟨(fun _ => rfl), ?_⟩ | refine ⟨rfl, ?_⟩ | refine Opt.a ?_ | fail)
  · conv => whnf
    refine join_intro (σ := Unit) (fun _ => [(0, .sl blV x), (2, .nil), (6, .own 0)]) (fun _ => [.row 1 []]) (fun _ => True) ?_ ?_
    · repeat' (first | exact True.intro | refine ⟨_, LeL.refl _, ?_⟩ | refine ⟨_, _, _, LeL.refl _, ?_⟩ | (refine fun (b : Bool) hb => ?_; cases b <;> (first | exact absurd hb (by decide) | exact Bool.noConfusion (show true = false from hb) | exact Bool.noConfusion (show false = true from hb) | skip)) | (refine fun (hl : _ ≤ MAXL) => ?_) | refine And.intro (a := I64 _) ?_ ?_ | refine And.intro (a := _ ≤ 140737488355328) ?_ ?_ | refine ⟨_, ⟨rfl, rfl⟩, ?_⟩ | refine ⟨_, And.intro (a := I64 _) ?_ ⟨rfl, rfl⟩, ?_⟩ | refine ⟨_, _, ⟨rfl, rfl⟩, ?_⟩ | refine ⟨_, (fun _ => ⟨rfl, rfl⟩), ?_⟩ | refine And.intro (a := chkPend _ _ _ _ _ _) ?_ ?_ | refine And.intro (a := chkPast _ _ _ _ _ _ _ _) ?_ ?_ | refine ⟨⟨rfl, rfl⟩, ?_⟩ | refine And.intro (And.intro rfl rfl) ?_ | refine ⟨True.intro, ?_⟩ | refine ⟨_, ⟨_, rfl, ?_, rfl, rfl, rfl⟩, ?_⟩ | refine ⟨_, rfl, ?_, rfl, ?_⟩ | refine ⟨_, (fun _ => rfl), rfl, ?_⟩ | refine ⟨(fun _ => rfl), ?_⟩ | refine ⟨rfl, ?_⟩ | refine Opt.a ?_ | fail)
      · unfold I64; omega
      · unfold I64; omega
      · refine ⟨(), wk_sel [none] rfl rfl trivial ?_, trivial⟩
        (repeat' (first | exact True.intro | exact rfl | exact Or.inl rfl | exact Or.inr rfl | refine And.intro ?_ ?_ | fail))
      · refine ⟨(f i).length, by simp, by grind, by simp only [Nat.mul_one]; omega, ?_⟩
        refine fun _ => ?_
        refine ⟨0, rfl, Nat.zero_le _, ?_⟩
        refine ⟨(), wk_sel [some 1] rfl rfl ⟨rfl, trivial⟩ ?_, trivial⟩
        (repeat' (first | exact True.intro | exact rfl | exact Or.inl rfl | exact Or.inr rfl | refine And.intro ?_ ?_ | fail))
    intro _ _
    refine fun (hl : _ ≤ MAXL) => ?_
    conv => whnf
    refine loop_intro (σ := Nat) (fun i => [(0, .sl blV x), (2, .nil), (6, .own 0), (25, .sl blV x), (26, .int .i64 x.length), (27, .int .i64 i)]) (fun i => [.row 1 ((f i).map byteV)]) (fun i => i ≤ x.length) (fun i => x.length - i) 0 (wk_sel [some 0] rfl rfl ⟨?_, trivial⟩ ?_) (Nat.zero_le _) ?_
    · rw [f0]; exact rfl
    · (repeat' (first | exact True.intro | exact rfl | exact Or.inl rfl | exact Or.inr rfl | refine And.intro ?_ ?_ | fail))
    intro i hi
    have hs := fl i
    repeat' (first | exact True.intro | refine ⟨_, LeL.refl _, ?_⟩ | refine ⟨_, _, _, LeL.refl _, ?_⟩ | (refine fun (b : Bool) hb => ?_; cases b <;> (first | exact absurd hb (by decide) | exact Bool.noConfusion (show true = false from hb) | exact Bool.noConfusion (show false = true from hb) | skip)) | (refine fun (hl : _ ≤ MAXL) => ?_) | refine And.intro (a := I64 _) ?_ ?_ | refine And.intro (a := _ ≤ 140737488355328) ?_ ?_ | refine ⟨_, ⟨rfl, rfl⟩, ?_⟩ | refine ⟨_, And.intro (a := I64 _) ?_ ⟨rfl, rfl⟩, ?_⟩ | refine ⟨_, _, ⟨rfl, rfl⟩, ?_⟩ | refine ⟨_, (fun _ => ⟨rfl, rfl⟩), ?_⟩ | refine And.intro (a := chkPend _ _ _ _ _ _) ?_ ?_ | refine And.intro (a := chkPast _ _ _ _ _ _ _ _) ?_ ?_ | refine ⟨⟨rfl, rfl⟩, ?_⟩ | refine And.intro (And.intro rfl rfl) ?_ | refine ⟨True.intro, ?_⟩ | refine ⟨_, ⟨_, rfl, ?_, rfl, rfl, rfl⟩, ?_⟩ | refine ⟨_, rfl, ?_, rfl, ?_⟩ | refine ⟨_, (fun _ => rfl), rfl, ?_⟩ | refine ⟨(fun _ => rfl), ?_⟩ | refine ⟨rfl, ?_⟩ | refine Opt.a ?_ | refine ⟨UInt8, byteV, ?_⟩ | fail)
    · refine hK _ ?_
      rw [fN i (by grind)]
    · grind
    · have := fl (i + 1)
      rw [fS i (by grind)] at this
      simp only [List.length_append, List.length_map, blV, elsOf] at this ⊢
      omega
    · unfold I64; grind
    · refine ⟨i + 1, ?_, ?_, ?_⟩
      · refine wk_sel [some 1] rfl rfl ⟨?_, trivial⟩ ?_
        · rw [fS i (by grind), List.map_append]
          exact rfl
        · (repeat' (first | exact True.intro | exact rfl | exact Or.inl rfl | exact Or.inr rfl | refine And.intro ?_ ?_ | fail))
      · grind
      · grind
  · grind
  · unfold I64; grind
  · unfold I64; grind
  · refine ⟨i + 1, ?_, ?_, ?_⟩
    · refine wk_sel [] rfl rfl trivial ?_
      rw [fS i (by grind)]
      simp only [List.length_append]
      (repeat' (first | exact True.intro | exact rfl | exact Or.inl rfl | exact Or.inr rfl | refine And.intro ?_ ?_ | fail))
    · grind
    · grind
end Gv
namespace Gv
variable [Glob] [Laid]
theorem part_put (l : List Bs) (n k : Nat) : (put (part l n k)).length ≤ (put l).length := by
  have h1 := put_take_le l ((k + 1) * l.length / n)
  have h2 := congrArg (fun a => (put a).length) (List.take_append_drop (k * l.length / n) (l.take ((k + 1) * l.length / n)))
  simp only [put_append, List.length_append] at h2
  unfold Gp.part
  omega
theorem mul_cast_le {a b c : Nat} (h : a * b ≤ c) : (a : Int) * (b : Int) ≤ (c : Int) := by
  rw [← Int.natCast_mul]
  omega
theorem div_cast (k m n : Nat) : ((k : Int) * (m : Int)) / (n : Int) = ((k * m / n : Nat) : Int) := by
  rw [← Int.natCast_mul, ← Int.natCast_ediv]
theorem splitLines_ca : callable Tryz.prog 191 = true := by kernel_rfl
def splitLines_S : Spec := fun args K => ∃ (l : List Bs) (n : Nat), args = [.sl strV l, .int .i64 n] ∧ (1 ≤ n ∧ n ≤ 1000 ∧ (put l).length ≤ 1000000) ∧ K (.sl blV (splitLines l n))
noncomputable def splitLines_lib : List (Nat × Spec) := [(97, put_S)]
noncomputable def splitLines_fns : List (Nat × FnI) := []
noncomputable def splitLines_prims : List (Nat × PSpec) := []
theorem splitLines_E : EnvOK ⟨Tryz.prog, tys, splitLines_lib, splitLines_fns, splitLines_prims, []⟩ := env_ok mixed0 tys0 (.cons put_ca put_ok .nil) .nil .nil rfl
set_option maxHeartbeats 4000000 in
theorem splitLines_ok : Pure Tryz.prog 191 splitLines_S := by
  refine pure_by splitLines_E 6 (fi := {fn := Tryz.f191, hooks := [], draws := [(5, [0, 0, 0, 0, 8, 28, 0, 124, 0, 256, 0, 1024, 3840, 0, 16128, 32766, 65534, 131070, 262143, 524287])]}) ⟨Tryz.func191, by kernel_rfl, by kernel_rfl⟩ ?_
  rintro _ K ⟨l, n, rfl, ⟨hn1, hn2, hz⟩, hK⟩
  conv => whnf
  have hl1 := put_len (l := l) (n := 1000000) hz
  refine loop_live [0, 1, 7] (σ := Nat) (fun k => [(5, .own 0), (8, .int .i64 k)]) (fun k => [.row 1 (((splitLines l n).take k).map blV)]) (fun k => k ≤ n) (fun k => n - k) 0 ?_
  conv => whnf
  refine ⟨(by (refine wk_sel [none] rfl rfl ?_ ?_ <;> (repeat' (first | exact True.intro | exact rfl | exact Or.inl rfl | exact Or.inr rfl | refine And.intro ?_ ?_ | fail)))), Nat.zero_le _, fun k hk => ?_⟩
  have hsl : (splitLines l n).length = n := by simp [splitLines]
  have hml : k * l.length ≤ 1000000000 := Nat.mul_le_mul (show k ≤ 1000 by omega) hl1
  have hml2 : (k + 1) * l.length ≤ 1001000000 := Nat.mul_le_mul (show k + 1 ≤ 1001 by omega) hl1
  have hml3 := mul_cast_le hml
  have hml4 : ((k : Int) + 1) * (l.length : Int) ≤ ((1001000000 : Nat) : Int) := mul_cast_le hml2
  have hml5 : 0 ≤ (k : Int) * l.length := Int.mul_nonneg (by omega) (by omega)
  have hml6 : 0 ≤ ((k : Int) + 1) * l.length := Int.mul_nonneg (by omega) (by omega)
  have hbd := part_bnd l.length n k (by omega)
  have hpp := part_put l n k
  repeat' (first | exact True.intro | refine ⟨_, LeL.refl _, ?_⟩ | refine ⟨_, _, _, LeL.refl _, ?_⟩ | (refine fun (b : Bool) hb => ?_; cases b <;> (first | exact absurd hb (by decide) | exact Bool.noConfusion (show true = false from hb) | exact Bool.noConfusion (show false = true from hb) | skip)) | (refine fun (hl : _ ≤ MAXL) => ?_) | refine And.intro (a := I64 _) ?_ ?_ | refine And.intro (a := _ ≤ 140737488355328) ?_ ?_ | refine ⟨_, ⟨rfl, rfl⟩, ?_⟩ | refine ⟨_, And.intro (a := I64 _) ?_ ⟨rfl, rfl⟩, ?_⟩ | refine ⟨_, _, ⟨rfl, rfl⟩, ?_⟩ | refine ⟨_, (fun _ => ⟨rfl, rfl⟩), ?_⟩ | refine And.intro (a := chkPend _ _ _ _ _ _) ?_ ?_ | refine And.intro (a := chkPast _ _ _ _ _ _ _ _) ?_ ?_ | refine ⟨⟨rfl, rfl⟩, ?_⟩ | refine And.intro (And.intro rfl rfl) ?_ | refine ⟨True.intro, ?_⟩ | refine ⟨_, ⟨_, rfl, ?_, rfl, rfl, rfl⟩, ?_⟩ | refine ⟨_, rfl, ?_, rfl, ?_⟩ | refine ⟨_, (fun _ => rfl), rfl, ?_⟩ | refine ⟨(fun _ => rfl), ?_⟩ | refine ⟨rfl, ?_⟩ | refine Opt.a ?_ | fail)
  · rw [List.take_of_length_le (by grind)]
    exact hK
  · exact ⟨by omega, by omega⟩
  refine ⟨_, ⟨⟨hml5, by omega, by omega⟩, rfl, rfl⟩, ?_⟩
  repeat' (first | exact True.intro | refine ⟨_, LeL.refl _, ?_⟩ | refine ⟨_, _, _, LeL.refl _, ?_⟩ | (refine fun (b : Bool) hb => ?_; cases b <;> (first | exact absurd hb (by decide) | exact Bool.noConfusion (show true = false from hb) | exact Bool.noConfusion (show false = true from hb) | skip)) | (refine fun (hl : _ ≤ MAXL) => ?_) | refine And.intro (a := I64 _) ?_ ?_ | refine And.intro (a := _ ≤ 140737488355328) ?_ ?_ | refine ⟨_, ⟨rfl, rfl⟩, ?_⟩ | refine ⟨_, And.intro (a := I64 _) ?_ ⟨rfl, rfl⟩, ?_⟩ | refine ⟨_, _, ⟨rfl, rfl⟩, ?_⟩ | refine ⟨_, (fun _ => ⟨rfl, rfl⟩), ?_⟩ | refine And.intro (a := chkPend _ _ _ _ _ _) ?_ ?_ | refine And.intro (a := chkPast _ _ _ _ _ _ _ _) ?_ ?_ | refine ⟨⟨rfl, rfl⟩, ?_⟩ | refine And.intro (And.intro rfl rfl) ?_ | refine ⟨True.intro, ?_⟩ | refine ⟨_, ⟨_, rfl, ?_, rfl, rfl, rfl⟩, ?_⟩ | refine ⟨_, rfl, ?_, rfl, ?_⟩ | refine ⟨_, (fun _ => rfl), rfl, ?_⟩ | refine ⟨(fun _ => rfl), ?_⟩ | refine ⟨rfl, ?_⟩ | refine Opt.a ?_ | fail)
  · exact ⟨by omega, by omega⟩
  · exact ⟨by omega, by omega⟩
  refine ⟨_, ⟨⟨hml6, by omega, by omega⟩, rfl, rfl⟩, ?_⟩
  refine ⟨_, ⟨fun _ => rfl, k * l.length / n, (k + 1) * l.length / n, div_cast _ _ _, div_cast (k + 1) _ _, Nat.le_trans (Nat.le_add_right _ _) hbd.1, ?_, rfl, rfl⟩, ?_⟩
  · exact Nat.div_le_of_le_mul (Nat.mul_le_mul_right _ (by grind))
  refine ⟨_, ⟨Gp.part l n k, rfl, by omega, rfl, rfl⟩, ?_⟩
  refine ⟨_, ⟨Bs, blV, [put (Gp.part l n k)], LeL.refl _, rfl, rfl⟩, ?_⟩
  repeat' (first | exact True.intro | refine ⟨_, LeL.refl _, ?_⟩ | refine ⟨_, _, _, LeL.refl _, ?_⟩ | (refine fun (b : Bool) hb => ?_; cases b <;> (first | exact absurd hb (by decide) | exact Bool.noConfusion (show true = false from hb) | exact Bool.noConfusion (show false = true from hb) | skip)) | (refine fun (hl : _ ≤ MAXL) => ?_) | refine And.intro (a := I64 _) ?_ ?_ | refine And.intro (a := _ ≤ 140737488355328) ?_ ?_ | refine ⟨_, ⟨rfl, rfl⟩, ?_⟩ | refine ⟨_, And.intro (a := I64 _) ?_ ⟨rfl, rfl⟩, ?_⟩ | refine ⟨_, _, ⟨rfl, rfl⟩, ?_⟩ | refine ⟨_, (fun _ => ⟨rfl, rfl⟩), ?_⟩ | refine And.intro (a := chkPend _ _ _ _ _ _) ?_ ?_ | refine And.intro (a := chkPast _ _ _ _ _ _ _ _) ?_ ?_ | refine ⟨⟨rfl, rfl⟩, ?_⟩ | refine And.intro (And.intro rfl rfl) ?_ | refine ⟨True.intro, ?_⟩ | refine ⟨_, ⟨_, rfl, ?_, rfl, rfl, rfl⟩, ?_⟩ | refine ⟨_, rfl, ?_, rfl, ?_⟩ | refine ⟨_, (fun _ => rfl), rfl, ?_⟩ | refine ⟨(fun _ => rfl), ?_⟩ | refine ⟨rfl, ?_⟩ | refine Opt.a ?_ | fail)
  refine ⟨_, _, ⟨fun _ => rfl, ?_, rfl, rfl⟩, ?_⟩
  · simp only [List.length_map, List.length_take, List.length_cons, List.length_nil, elsOf]
    omega
  repeat' (first | exact True.intro | refine ⟨_, LeL.refl _, ?_⟩ | refine ⟨_, _, _, LeL.refl _, ?_⟩ | (refine fun (b : Bool) hb => ?_; cases b <;> (first | exact absurd hb (by decide) | exact Bool.noConfusion (show true = false from hb) | exact Bool.noConfusion (show false = true from hb) | skip)) | (refine fun (hl : _ ≤ MAXL) => ?_) | refine And.intro (a := I64 _) ?_ ?_ | refine And.intro (a := _ ≤ 140737488355328) ?_ ?_ | refine ⟨_, ⟨rfl, rfl⟩, ?_⟩ | refine ⟨_, And.intro (a := I64 _) ?_ ⟨rfl, rfl⟩, ?_⟩ | refine ⟨_, _, ⟨rfl, rfl⟩, ?_⟩ | refine ⟨_, (fun _ => ⟨rfl, rfl⟩), ?_⟩ | refine And.intro (a := chkPend _ _ _ _ _ _) ?_ ?_ | refine And.intro (a := chkPast _ _ _ _ _ _ _ _) ?_ ?_ | refine ⟨⟨rfl, rfl⟩, ?_⟩ | refine And.intro (And.intro rfl rfl) ?_ | refine ⟨True.intro, ?_⟩ | refine ⟨_, ⟨_, rfl, ?_, rfl, rfl, rfl⟩, ?_⟩ | refine ⟨_, rfl, ?_, rfl, ?_⟩ | refine ⟨_, (fun _ => rfl), rfl, ?_⟩ | refine ⟨(fun _ => rfl), ?_⟩ | refine ⟨rfl, ?_⟩ | refine Opt.a ?_ | fail)
  · (first | omega | (unfold I64; omega) | (simp only [List.length_append, List.length_map, List.length_cons, List.length_nil, Nat.mul_one, Int.ofNat_eq_natCast] at *; omega) | (dsimp only at *; omega) | (unfold I64; dsimp only at *; omega) | (unfold I64; grind) | grind)
  · have hk2 : k < n := by grind
    refine ⟨k + 1, ?_, by omega, by omega⟩
    refine wk_sel [some 1] rfl rfl ⟨?_, trivial⟩ ?_
    · rw [List.take_succ_eq_append_getElem (by omega), List.map_append]
      have : (splitLines l n)[k]'(by omega) = put (Gp.part l n k) := by simp [splitLines]
      rw [this]
      exact rfl
    · (repeat' (first | exact True.intro | exact rfl | exact Or.inl rfl | exact Or.inr rfl | refine And.intro ?_ ?_ | fail))
end Gv
namespace Gv
variable [Glob] [Laid]
def bestI : Option (Nat × Bs) → Int
  | none => -1
  | some (j, _) => j
theorem mergeJ_ca : callable Tryz.prog 184 = true := by kernel_rfl
def mergeJ_S : Spec := fun args K => ∃ p : List (List Bs), args = [.sl lsV p] ∧ (p.flatten.length ≤ 1000000 ∧ p.length ≤ 1000) ∧ K (.sl strV (mergeB p))
noncomputable def mergeJ_lib : List (Nat × Spec) := []
noncomputable def mergeJ_fns : List (Nat × FnI) := [(251, {fn := Tryz.f251, hooks := [], draws := []})]
noncomputable def mergeJ_prims : List (Nat × PSpec) := []
theorem mergeJ_E : EnvOK ⟨Tryz.prog, tys, mergeJ_lib, mergeJ_fns, mergeJ_prims, []⟩ := env_ok mixed0 tys0 .nil (.cons (by kernel_rfl) ⟨Tryz.func251, by kernel_rfl, by kernel_rfl⟩ .nil) .nil rfl
set_option maxHeartbeats 8000000 in
theorem mergeJ_ok : Pure Tryz.prog 184 mergeJ_S := by
  refine pure_by mergeJ_E 6 (fi := {fn := Tryz.f184, hooks := [2], draws := [(7, [0, 1, 3, 7, 15, 31, 63, 127, 255, 511, 127, 127, 3199, 7295, 15487, 31871, 65535, 131071, 262143]), (12, [0, 0, 0, 0, 0, 24, 56, 120, 248, 504, 1020, 0, 0, 6144, 14336, 30720, 2044, 131071, 262143])]}) ⟨Tryz.func184, by kernel_rfl, by kernel_rfl⟩ ?_
  rintro _ K ⟨p, rfl, ⟨hp1, hp2⟩, hK⟩
  replace hK : ∀ r, r = .sl strV (mergeB p) → K r := fun r h => h ▸ hK
  conv => whnf
  refine join_live [] (σ := Unit) (fun _ => [(0, .own 0)]) (fun _ => [.row 1 (p.map lsV)]) (fun _ => True) ?_
  conv => whnf
  refine ⟨?_, fun _ _ => ?_⟩
  · repeat' (first | exact True.intro | refine ⟨_, LeL.refl _, ?_⟩ | refine ⟨_, _, _, LeL.refl _, ?_⟩ | (refine fun (b : Bool) hb => ?_; cases b <;> (first | exact absurd hb (by decide) | exact Bool.noConfusion (show true = false from hb) | exact Bool.noConfusion (show false = true from hb) | skip)) | (refine fun (hl : _ ≤ MAXL) => ?_) | refine And.intro (a := I64 _) ?_ ?_ | refine And.intro (a := _ ≤ 140737488355328) ?_ ?_ | refine ⟨_, ⟨rfl, rfl⟩, ?_⟩ | refine ⟨_, And.intro (a := I64 _) ?_ ⟨rfl, rfl⟩, ?_⟩ | refine ⟨_, _, ⟨rfl, rfl⟩, ?_⟩ | refine ⟨_, (fun _ => ⟨rfl, rfl⟩), ?_⟩ | refine And.intro (a := chkPend _ _ _ _ _ _) ?_ ?_ | refine And.intro (a := chkPast _ _ _ _ _ _ _ _) ?_ ?_ | refine ⟨⟨rfl, rfl⟩, ?_⟩ | refine And.intro (And.intro rfl rfl) ?_ | refine ⟨True.intro, ?_⟩ | refine ⟨_, ⟨_, rfl, ?_, rfl, rfl, rfl⟩, ?_⟩ | refine ⟨_, rfl, ?_, rfl, ?_⟩ | refine ⟨_, (fun _ => rfl), rfl, ?_⟩ | refine ⟨(fun _ => rfl), ?_⟩ | refine ⟨rfl, ?_⟩ | refine Opt.a ?_ | fail)
    · show (0 + (p.map lsV).length) * 24 ≤ 140737488355328
      rw [List.length_map]
      omega
    · exact ⟨(), (by (refine wk_auto ?_; refine Sel4.mk rfl rfl ?_ ?_ <;> (repeat' (first | exact True.intro | exact rfl | exact Or.inl rfl | exact Or.inr rfl | refine And.intro ?_ ?_ | fail)))), trivial⟩
    · have h : true = true → p = [] := by assumption
      rw [h rfl]
      exact ⟨(), (by (refine wk_auto ?_; refine Sel4.mk rfl rfl ?_ ?_ <;> (repeat' (first | exact True.intro | exact rfl | exact Or.inl rfl | exact Or.inr rfl | refine And.intro ?_ ?_ | fail)))), trivial⟩
  repeat' (first | exact True.intro | refine ⟨_, LeL.refl _, ?_⟩ | refine ⟨_, _, _, LeL.refl _, ?_⟩ | (refine fun (b : Bool) hb => ?_; cases b <;> (first | exact absurd hb (by decide) | exact Bool.noConfusion (show true = false from hb) | exact Bool.noConfusion (show false = true from hb) | skip)) | (refine fun (hl : _ ≤ MAXL) => ?_) | refine And.intro (a := I64 _) ?_ ?_ | refine And.intro (a := _ ≤ 140737488355328) ?_ ?_ | refine ⟨_, ⟨rfl, rfl⟩, ?_⟩ | refine ⟨_, And.intro (a := I64 _) ?_ ⟨rfl, rfl⟩, ?_⟩ | refine ⟨_, _, ⟨rfl, rfl⟩, ?_⟩ | refine ⟨_, (fun _ => ⟨rfl, rfl⟩), ?_⟩ | refine And.intro (a := chkPend _ _ _ _ _ _) ?_ ?_ | refine And.intro (a := chkPast _ _ _ _ _ _ _ _) ?_ ?_ | refine ⟨⟨rfl, rfl⟩, ?_⟩ | refine And.intro (And.intro rfl rfl) ?_ | refine ⟨True.intro, ?_⟩ | refine ⟨_, ⟨_, rfl, ?_, rfl, rfl, rfl⟩, ?_⟩ | refine ⟨_, rfl, ?_, rfl, ?_⟩ | refine ⟨_, (fun _ => rfl), rfl, ?_⟩ | refine ⟨(fun _ => rfl), ?_⟩ | refine ⟨rfl, ?_⟩ | refine Opt.a ?_ | fail)
  conv => whnf
  refine loop_live [0] (σ := List (List Bs) × List Bs) (fun s => [(3, .own 1)]) (fun s => [.row 1 (s.1.map lsV), .row 1 (s.2.map strV)]) (fun s => s.2 ++ mergeB s.1 = mergeB p ∧ s.1.length = p.length ∧ s.2.length + s.1.flatten.length = p.flatten.length) (fun s => s.1.flatten.length) (p, []) ?_
  conv => whnf
  refine ⟨(by (refine wk_auto ?_; refine Sel4.mk rfl rfl ?_ ?_ <;> (repeat' (first | exact True.intro | exact rfl | exact Or.inl rfl | exact Or.inr rfl | refine And.intro ?_ ?_ | fail)))), ⟨rfl, rfl, by simp⟩, fun s hs => ?_⟩
  obtain ⟨q, out⟩ := s
  obtain ⟨h1, h2, h3⟩ := hs
  dsimp only at h1 h2 h3
  repeat' (first | exact True.intro | refine ⟨_, LeL.refl _, ?_⟩ | refine ⟨_, _, _, LeL.refl _, ?_⟩ | (refine fun (b : Bool) hb => ?_; cases b <;> (first | exact absurd hb (by decide) | exact Bool.noConfusion (show true = false from hb) | exact Bool.noConfusion (show false = true from hb) | skip)) | (refine fun (hl : _ ≤ MAXL) => ?_) | refine And.intro (a := I64 _) ?_ ?_ | refine And.intro (a := _ ≤ 140737488355328) ?_ ?_ | refine ⟨_, ⟨rfl, rfl⟩, ?_⟩ | refine ⟨_, And.intro (a := I64 _) ?_ ⟨rfl, rfl⟩, ?_⟩ | refine ⟨_, _, ⟨rfl, rfl⟩, ?_⟩ | refine ⟨_, (fun _ => ⟨rfl, rfl⟩), ?_⟩ | refine And.intro (a := chkPend _ _ _ _ _ _) ?_ ?_ | refine And.intro (a := chkPast _ _ _ _ _ _ _ _) ?_ ?_ | refine ⟨⟨rfl, rfl⟩, ?_⟩ | refine And.intro (And.intro rfl rfl) ?_ | refine ⟨True.intro, ?_⟩ | refine ⟨_, ⟨_, rfl, ?_, rfl, rfl, rfl⟩, ?_⟩ | refine ⟨_, rfl, ?_, rfl, ?_⟩ | refine ⟨_, (fun _ => rfl), rfl, ?_⟩ | refine ⟨(fun _ => rfl), ?_⟩ | refine ⟨rfl, ?_⟩ | refine Opt.a ?_ | fail)
  conv => whnf
  refine loop_live [0, 3, 9, 10] (σ := Nat) (fun i => [(11, .int .i64 i), (4, .int .i64 (bestI (best q i)))]) (fun s => [.row 1 (q.map lsV), .row 1 (out.map strV)]) (fun i => i ≤ q.length) (fun i => q.length - i) 0 ?_
  conv => whnf
  refine ⟨(by (refine wk_auto ?_; refine Sel4.mk rfl rfl ?_ ?_ <;> (repeat' (first | exact True.intro | exact rfl | exact Or.inl rfl | exact Or.inr rfl | refine And.intro ?_ ?_ | fail)))), Nat.zero_le _, fun i hi => ?_⟩
  repeat' (first | exact True.intro | refine ⟨_, LeL.refl _, ?_⟩ | refine ⟨_, _, _, LeL.refl _, ?_⟩ | (refine fun (b : Bool) hb => ?_; cases b <;> (first | exact absurd hb (by decide) | exact Bool.noConfusion (show true = false from hb) | exact Bool.noConfusion (show false = true from hb) | skip)) | (refine fun (hl : _ ≤ MAXL) => ?_) | refine And.intro (a := I64 _) ?_ ?_ | refine And.intro (a := _ ≤ 140737488355328) ?_ ?_ | refine ⟨_, ⟨rfl, rfl⟩, ?_⟩ | refine ⟨_, And.intro (a := I64 _) ?_ ⟨rfl, rfl⟩, ?_⟩ | refine ⟨_, _, ⟨rfl, rfl⟩, ?_⟩ | refine ⟨_, (fun _ => ⟨rfl, rfl⟩), ?_⟩ | refine And.intro (a := chkPend _ _ _ _ _ _) ?_ ?_ | refine And.intro (a := chkPast _ _ _ _ _ _ _ _) ?_ ?_ | refine ⟨⟨rfl, rfl⟩, ?_⟩ | refine And.intro (And.intro rfl rfl) ?_ | refine ⟨True.intro, ?_⟩ | refine ⟨_, ⟨_, rfl, ?_, rfl, rfl, rfl⟩, ?_⟩ | refine ⟨_, rfl, ?_, rfl, ?_⟩ | refine ⟨_, (fun _ => rfl), rfl, ?_⟩ | refine ⟨(fun _ => rfl), ?_⟩ | refine ⟨rfl, ?_⟩ | refine Opt.a ?_ | fail)
  · -- the least one goes
    have hge : ¬ (i : Int) < ((q.map lsV).length : Int) := of_decide_eq_false (by assumption)
    rw [List.length_map] at hge
    have ei : i = q.length := by omega
    have hb : ¬ bestI (best q i) < 0 := of_decide_eq_false (by assumption)
    obtain ⟨j, s, hbt⟩ : ∃ j s, best q i = some (j, s) := by
      cases hq : best q i with
      | none => rw [hq] at hb; exact absurd (show (-1 : Int) < 0 by decide) hb
      | some x => exact ⟨x.1, x.2, rfl⟩
    have hbt2 : best q q.length = some (j, s) := by rw [← ei]; exact hbt
    obtain ⟨hji, ⟨r, hjr⟩, -⟩ := best_some hbt2
    have hqj : q[j] = s :: r := by rw [List.getD_eq_getElem?_getD, List.getElem?_eq_getElem hji] at hjr; exact hjr
    have hgj : (q.map lsV)[j]? = some (lsV q[j]) := by rw [List.getElem?_map, List.getElem?_eq_getElem hji]; rfl
    have hpj : 0 < q[j].length := by rw [hqj]; exact Nat.succ_pos _
    have hj0 : ∀ h : 0 < q[j].length, q[j][0] = s := fun h => by simp [hqj]
    have hms := mergeB_step hbt2
    have hfl := (flat_part hjr).length_eq
    rw [List.length_cons] at hfl
    conv => whnf
    refine ⟨_, ⟨rfl, j, by rw [hbt]; rfl, by simpa using hji, ⟨rfl, rfl⟩⟩, ?_⟩
    repeat' (first | exact True.intro | refine ⟨_, LeL.refl _, ?_⟩ | refine ⟨_, _, _, LeL.refl _, ?_⟩ | (refine fun (b : Bool) hb => ?_; cases b <;> (first | exact absurd hb (by decide) | exact Bool.noConfusion (show true = false from hb) | exact Bool.noConfusion (show false = true from hb) | skip)) | (refine fun (hl : _ ≤ MAXL) => ?_) | refine And.intro (a := I64 _) ?_ ?_ | refine And.intro (a := _ ≤ 140737488355328) ?_ ?_ | refine ⟨_, ⟨rfl, rfl⟩, ?_⟩ | refine ⟨_, And.intro (a := I64 _) ?_ ⟨rfl, rfl⟩, ?_⟩ | refine ⟨_, _, ⟨rfl, rfl⟩, ?_⟩ | refine ⟨_, (fun _ => ⟨rfl, rfl⟩), ?_⟩ | refine And.intro (a := chkPend _ _ _ _ _ _) ?_ ?_ | refine And.intro (a := chkPast _ _ _ _ _ _ _ _) ?_ ?_ | refine ⟨⟨rfl, rfl⟩, ?_⟩ | refine And.intro (And.intro rfl rfl) ?_ | refine ⟨True.intro, ?_⟩ | refine ⟨_, ⟨_, rfl, ?_, rfl, rfl, rfl⟩, ?_⟩ | refine ⟨_, rfl, ?_, rfl, ?_⟩ | refine ⟨_, (fun _ => rfl), rfl, ?_⟩ | refine ⟨(fun _ => rfl), ?_⟩ | refine ⟨rfl, ?_⟩ | refine Opt.a ?_ | fail)
    conv => whnf
    refine ⟨_, ⟨_, hgj, ⟨rfl, rfl⟩⟩, ?_⟩
    repeat' (first | exact True.intro | refine ⟨_, LeL.refl _, ?_⟩ | refine ⟨_, _, _, LeL.refl _, ?_⟩ | (refine fun (b : Bool) hb => ?_; cases b <;> (first | exact absurd hb (by decide) | exact Bool.noConfusion (show true = false from hb) | exact Bool.noConfusion (show false = true from hb) | skip)) | (refine fun (hl : _ ≤ MAXL) => ?_) | refine And.intro (a := I64 _) ?_ ?_ | refine And.intro (a := _ ≤ 140737488355328) ?_ ?_ | refine ⟨_, ⟨rfl, rfl⟩, ?_⟩ | refine ⟨_, And.intro (a := I64 _) ?_ ⟨rfl, rfl⟩, ?_⟩ | refine ⟨_, _, ⟨rfl, rfl⟩, ?_⟩ | refine ⟨_, (fun _ => ⟨rfl, rfl⟩), ?_⟩ | refine And.intro (a := chkPend _ _ _ _ _ _) ?_ ?_ | refine And.intro (a := chkPast _ _ _ _ _ _ _ _) ?_ ?_ | refine ⟨⟨rfl, rfl⟩, ?_⟩ | refine And.intro (And.intro rfl rfl) ?_ | refine ⟨True.intro, ?_⟩ | refine ⟨_, ⟨_, rfl, ?_, rfl, rfl, rfl⟩, ?_⟩ | refine ⟨_, rfl, ?_, rfl, ?_⟩ | refine ⟨_, (fun _ => rfl), rfl, ?_⟩ | refine ⟨(fun _ => rfl), ?_⟩ | refine ⟨rfl, ?_⟩ | refine Opt.a ?_ | fail)
    · exact hpj
    refine ⟨_, ⟨Bs, strV, [q[j][0]], LeL.refl _, rfl, rfl⟩, ?_⟩
    refine ⟨_, _, ⟨fun _ => rfl, ?_, rfl, rfl⟩, ?_⟩
    · show ((out.map strV).length + ([q[j][0]].map strV).length) * 16 ≤ 140737488355328
      rw [List.length_map, List.length_map, List.length_singleton]
      omega
    repeat' (first | exact True.intro | refine ⟨_, LeL.refl _, ?_⟩ | refine ⟨_, _, _, LeL.refl _, ?_⟩ | (refine fun (b : Bool) hb => ?_; cases b <;> (first | exact absurd hb (by decide) | exact Bool.noConfusion (show true = false from hb) | exact Bool.noConfusion (show false = true from hb) | skip)) | (refine fun (hl : _ ≤ MAXL) => ?_) | refine And.intro (a := I64 _) ?_ ?_ | refine And.intro (a := _ ≤ 140737488355328) ?_ ?_ | refine ⟨_, ⟨rfl, rfl⟩, ?_⟩ | refine ⟨_, And.intro (a := I64 _) ?_ ⟨rfl, rfl⟩, ?_⟩ | refine ⟨_, _, ⟨rfl, rfl⟩, ?_⟩ | refine ⟨_, (fun _ => ⟨rfl, rfl⟩), ?_⟩ | refine And.intro (a := chkPend _ _ _ _ _ _) ?_ ?_ | refine And.intro (a := chkPast _ _ _ _ _ _ _ _) ?_ ?_ | refine ⟨⟨rfl, rfl⟩, ?_⟩ | refine And.intro (And.intro rfl rfl) ?_ | refine ⟨True.intro, ?_⟩ | refine ⟨_, ⟨_, rfl, ?_, rfl, rfl, rfl⟩, ?_⟩ | refine ⟨_, rfl, ?_, rfl, ?_⟩ | refine ⟨_, (fun _ => rfl), rfl, ?_⟩ | refine ⟨(fun _ => rfl), ?_⟩ | refine ⟨rfl, ?_⟩ | refine Opt.a ?_ | fail)
    conv => whnf
    refine ⟨_, ⟨rfl, j, by rw [hbt]; rfl, by simpa using hji, ⟨rfl, rfl⟩⟩, ?_⟩
    repeat' (first | exact True.intro | refine ⟨_, LeL.refl _, ?_⟩ | refine ⟨_, _, _, LeL.refl _, ?_⟩ | (refine fun (b : Bool) hb => ?_; cases b <;> (first | exact absurd hb (by decide) | exact Bool.noConfusion (show true = false from hb) | exact Bool.noConfusion (show false = true from hb) | skip)) | (refine fun (hl : _ ≤ MAXL) => ?_) | refine And.intro (a := I64 _) ?_ ?_ | refine And.intro (a := _ ≤ 140737488355328) ?_ ?_ | refine ⟨_, ⟨rfl, rfl⟩, ?_⟩ | refine ⟨_, And.intro (a := I64 _) ?_ ⟨rfl, rfl⟩, ?_⟩ | refine ⟨_, _, ⟨rfl, rfl⟩, ?_⟩ | refine ⟨_, (fun _ => ⟨rfl, rfl⟩), ?_⟩ | refine And.intro (a := chkPend _ _ _ _ _ _) ?_ ?_ | refine And.intro (a := chkPast _ _ _ _ _ _ _ _) ?_ ?_ | refine ⟨⟨rfl, rfl⟩, ?_⟩ | refine And.intro (And.intro rfl rfl) ?_ | refine ⟨True.intro, ?_⟩ | refine ⟨_, ⟨_, rfl, ?_, rfl, rfl, rfl⟩, ?_⟩ | refine ⟨_, rfl, ?_, rfl, ?_⟩ | refine ⟨_, (fun _ => rfl), rfl, ?_⟩ | refine ⟨(fun _ => rfl), ?_⟩ | refine ⟨rfl, ?_⟩ | refine Opt.a ?_ | fail)
    · conv => whnf
      exact ⟨⟨rfl, j, by rw [hbt]; rfl, by simpa using hji, ⟨rfl, rfl⟩⟩, trivial⟩
    conv => whnf
    refine ⟨_, ⟨_, hgj, ⟨rfl, rfl⟩⟩, ?_⟩
    repeat' (first | exact True.intro | refine ⟨_, LeL.refl _, ?_⟩ | refine ⟨_, _, _, LeL.refl _, ?_⟩ | (refine fun (b : Bool) hb => ?_; cases b <;> (first | exact absurd hb (by decide) | exact Bool.noConfusion (show true = false from hb) | exact Bool.noConfusion (show false = true from hb) | skip)) | (refine fun (hl : _ ≤ MAXL) => ?_) | refine And.intro (a := I64 _) ?_ ?_ | refine And.intro (a := _ ≤ 140737488355328) ?_ ?_ | refine ⟨_, ⟨rfl, rfl⟩, ?_⟩ | refine ⟨_, And.intro (a := I64 _) ?_ ⟨rfl, rfl⟩, ?_⟩ | refine ⟨_, _, ⟨rfl, rfl⟩, ?_⟩ | refine ⟨_, (fun _ => ⟨rfl, rfl⟩), ?_⟩ | refine And.intro (a := chkPend _ _ _ _ _ _) ?_ ?_ | refine And.intro (a := chkPast _ _ _ _ _ _ _ _) ?_ ?_ | refine ⟨⟨rfl, rfl⟩, ?_⟩ | refine And.intro (And.intro rfl rfl) ?_ | refine ⟨True.intro, ?_⟩ | refine ⟨_, ⟨_, rfl, ?_, rfl, rfl, rfl⟩, ?_⟩ | refine ⟨_, rfl, ?_, rfl, ?_⟩ | refine ⟨_, (fun _ => rfl), rfl, ?_⟩ | refine ⟨(fun _ => rfl), ?_⟩ | refine ⟨rfl, ?_⟩ | refine Opt.a ?_ | fail)
    · conv => whnf
      exact ⟨⟨_, hgj, ⟨rfl, rfl⟩⟩, trivial⟩
    refine ⟨_, ⟨fun _ => rfl, 1, rfl, hpj, rfl, rfl⟩, ?_⟩
    repeat' (first | exact True.intro | refine ⟨_, LeL.refl _, ?_⟩ | refine ⟨_, _, _, LeL.refl _, ?_⟩ | (refine fun (b : Bool) hb => ?_; cases b <;> (first | exact absurd hb (by decide) | exact Bool.noConfusion (show true = false from hb) | exact Bool.noConfusion (show false = true from hb) | skip)) | (refine fun (hl : _ ≤ MAXL) => ?_) | refine And.intro (a := I64 _) ?_ ?_ | refine And.intro (a := _ ≤ 140737488355328) ?_ ?_ | refine ⟨_, ⟨rfl, rfl⟩, ?_⟩ | refine ⟨_, And.intro (a := I64 _) ?_ ⟨rfl, rfl⟩, ?_⟩ | refine ⟨_, _, ⟨rfl, rfl⟩, ?_⟩ | refine ⟨_, (fun _ => ⟨rfl, rfl⟩), ?_⟩ | refine And.intro (a := chkPend _ _ _ _ _ _) ?_ ?_ | refine And.intro (a := chkPast _ _ _ _ _ _ _ _) ?_ ?_ | refine ⟨⟨rfl, rfl⟩, ?_⟩ | refine And.intro (And.intro rfl rfl) ?_ | refine ⟨True.intro, ?_⟩ | refine ⟨_, ⟨_, rfl, ?_, rfl, rfl, rfl⟩, ?_⟩ | refine ⟨_, rfl, ?_, rfl, ?_⟩ | refine ⟨_, (fun _ => rfl), rfl, ?_⟩ | refine ⟨(fun _ => rfl), ?_⟩ | refine ⟨rfl, ?_⟩ | refine Opt.a ?_ | fail)
    conv => whnf
    refine ⟨_, ⟨rfl, j, by rw [hbt]; rfl, by simpa using hji, ⟨rfl, rfl⟩⟩, ?_⟩
    repeat' (first | exact True.intro | refine ⟨_, LeL.refl _, ?_⟩ | refine ⟨_, _, _, LeL.refl _, ?_⟩ | (refine fun (b : Bool) hb => ?_; cases b <;> (first | exact absurd hb (by decide) | exact Bool.noConfusion (show true = false from hb) | exact Bool.noConfusion (show false = true from hb) | skip)) | (refine fun (hl : _ ≤ MAXL) => ?_) | refine And.intro (a := I64 _) ?_ ?_ | refine And.intro (a := _ ≤ 140737488355328) ?_ ?_ | refine ⟨_, ⟨rfl, rfl⟩, ?_⟩ | refine ⟨_, And.intro (a := I64 _) ?_ ⟨rfl, rfl⟩, ?_⟩ | refine ⟨_, _, ⟨rfl, rfl⟩, ?_⟩ | refine ⟨_, (fun _ => ⟨rfl, rfl⟩), ?_⟩ | refine And.intro (a := chkPend _ _ _ _ _ _) ?_ ?_ | refine And.intro (a := chkPast _ _ _ _ _ _ _ _) ?_ ?_ | refine ⟨⟨rfl, rfl⟩, ?_⟩ | refine And.intro (And.intro rfl rfl) ?_ | refine ⟨True.intro, ?_⟩ | refine ⟨_, ⟨_, rfl, ?_, rfl, rfl, rfl⟩, ?_⟩ | refine ⟨_, rfl, ?_, rfl, ?_⟩ | refine ⟨_, (fun _ => rfl), rfl, ?_⟩ | refine ⟨(fun _ => rfl), ?_⟩ | refine ⟨rfl, ?_⟩ | refine Opt.a ?_ | fail)
    conv => whnf
    refine ⟨_, _, ⟨by simpa using hji, rfl, rfl⟩, ?_⟩
    repeat' (first | exact True.intro | refine ⟨_, LeL.refl _, ?_⟩ | refine ⟨_, _, _, LeL.refl _, ?_⟩ | (refine fun (b : Bool) hb => ?_; cases b <;> (first | exact absurd hb (by decide) | exact Bool.noConfusion (show true = false from hb) | exact Bool.noConfusion (show false = true from hb) | skip)) | (refine fun (hl : _ ≤ MAXL) => ?_) | refine And.intro (a := I64 _) ?_ ?_ | refine And.intro (a := _ ≤ 140737488355328) ?_ ?_ | refine ⟨_, ⟨rfl, rfl⟩, ?_⟩ | refine ⟨_, And.intro (a := I64 _) ?_ ⟨rfl, rfl⟩, ?_⟩ | refine ⟨_, _, ⟨rfl, rfl⟩, ?_⟩ | refine ⟨_, (fun _ => ⟨rfl, rfl⟩), ?_⟩ | refine And.intro (a := chkPend _ _ _ _ _ _) ?_ ?_ | refine And.intro (a := chkPast _ _ _ _ _ _ _ _) ?_ ?_ | refine ⟨⟨rfl, rfl⟩, ?_⟩ | refine And.intro (And.intro rfl rfl) ?_ | refine ⟨True.intro, ?_⟩ | refine ⟨_, ⟨_, rfl, ?_, rfl, rfl, rfl⟩, ?_⟩ | refine ⟨_, rfl, ?_, rfl, ?_⟩ | refine ⟨_, (fun _ => rfl), rfl, ?_⟩ | refine ⟨(fun _ => rfl), ?_⟩ | refine ⟨rfl, ?_⟩ | refine Opt.a ?_ | fail)
    refine ⟨(q.set j ((q.getD j []).drop 1), out ++ [s]), ?_, ⟨?_, ?_, ?_⟩, ?_⟩
    rotate_left
    · show (out ++ [s]) ++ mergeB _ = _
      rw [← h1, hms, List.append_assoc]
      rfl
    · show (q.set j _).length = _
      rw [List.length_set, h2]
    · show (out ++ [s]).length + (q.set j _).flatten.length = _
      rw [List.length_append, List.length_singleton]
      omega
    · show (q.set j _).flatten.length < q.flatten.length
      omega
    refine wk_sel [some 0, some 2] rfl rfl ⟨?_, ?_, trivial⟩ ?_
    · show Row.row 1 _ = Row.row 1 _
      rw [hjr, hqj, List.map_set]
      rfl
    · show Row.row 1 _ = Row.row 1 _
      rw [hj0 hpj, List.map_append]
    · (repeat' (first | exact True.intro | exact rfl | exact Or.inl rfl | exact Or.inr rfl | refine And.intro ?_ ?_ | fail))
  · -- none is left
    have hge : ¬ (i : Int) < ((q.map lsV).length : Int) := of_decide_eq_false (by assumption)
    rw [List.length_map] at hge
    have ei : i = q.length := by omega
    have hb : decide (bestI (best q i) < 0) = true := by assumption
    have hn : best q q.length = none := by
      rw [ei] at hb
      cases hq : best q q.length with
      | none => rfl
      | some x =>
        obtain ⟨j, s⟩ := x
        rw [hq] at hb
        have := of_decide_eq_true hb
        have this : (j : Int) < 0 := this
        omega
    rw [mergeB_none hn, List.append_nil] at h1
    conv => whnf
    exact hK _ (by rw [h1])
  have hlt : i < q.length := by
    have h := of_decide_eq_true (by assumption : decide ((i : Int) < ((q.map lsV).length : Int)) = true)
    rw [List.length_map] at h
    omega
  have hg : (q.map lsV)[i]? = some (lsV q[i]) := by rw [List.getElem?_map, List.getElem?_eq_getElem hlt]; rfl
  refine ⟨i, rfl, by simpa using hlt, ?_⟩
  conv => whnf
  refine ⟨_, hg, ?_⟩
  have hgd : q.getD i [] = q[i] := by rw [List.getD_eq_getElem?_getD, List.getElem?_eq_getElem hlt]; rfl
  have hstep : best q (i + 1) = bestStep (best q i) i q[i] := by rw [best, hgd]
  repeat' (first | exact True.intro | refine ⟨_, LeL.refl _, ?_⟩ | refine ⟨_, _, _, LeL.refl _, ?_⟩ | (refine fun (b : Bool) hb => ?_; cases b <;> (first | exact absurd hb (by decide) | exact Bool.noConfusion (show true = false from hb) | exact Bool.noConfusion (show false = true from hb) | skip)) | (refine fun (hl : _ ≤ MAXL) => ?_) | refine And.intro (a := I64 _) ?_ ?_ | refine And.intro (a := _ ≤ 140737488355328) ?_ ?_ | refine ⟨_, ⟨rfl, rfl⟩, ?_⟩ | refine ⟨_, And.intro (a := I64 _) ?_ ⟨rfl, rfl⟩, ?_⟩ | refine ⟨_, _, ⟨rfl, rfl⟩, ?_⟩ | refine ⟨_, (fun _ => ⟨rfl, rfl⟩), ?_⟩ | refine And.intro (a := chkPend _ _ _ _ _ _) ?_ ?_ | refine And.intro (a := chkPast _ _ _ _ _ _ _ _) ?_ ?_ | refine ⟨⟨rfl, rfl⟩, ?_⟩ | refine And.intro (And.intro rfl rfl) ?_ | refine ⟨True.intro, ?_⟩ | refine ⟨_, ⟨_, rfl, ?_, rfl, rfl, rfl⟩, ?_⟩ | refine ⟨_, rfl, ?_, rfl, ?_⟩ | refine ⟨_, (fun _ => rfl), rfl, ?_⟩ | refine ⟨(fun _ => rfl), ?_⟩ | refine ⟨rfl, ?_⟩ | refine Opt.a ?_ | fail)
  · unfold I64; omega
  · have h : ¬ (0 : Int) < (q[i].length : Int) := of_decide_eq_false (by assumption)
    have h0 : q[i] = [] := List.length_eq_zero_iff.1 (by omega)
    refine ⟨i + 1, ?_, hlt, by show q.length - (i + 1) < q.length - i; omega⟩
    have e : best q (i + 1) = best q i := by rw [hstep, h0]; rfl
    rw [e]
    exact (by (refine wk_auto ?_; refine Sel4.mk rfl rfl ?_ ?_ <;> (repeat' (first | exact True.intro | exact rfl | exact Or.inl rfl | exact Or.inr rfl | refine And.intro ?_ ?_ | fail))))
  · have h : (0 : Int) < (q[i].length : Int) := of_decide_eq_true (by assumption)
    have h0 : 0 < q[i].length := by omega
    exact h0
  · have hb : ¬ bestI (best q i) < 0 := of_decide_eq_false (by assumption)
    obtain ⟨j, t, hbt⟩ : ∃ j t, best q i = some (j, t) := by
      cases hq : best q i with
      | none => rw [hq] at hb; exact absurd (show (-1 : Int) < 0 by decide) hb
      | some x => exact ⟨x.1, x.2, rfl⟩
    obtain ⟨hji, ⟨r, hjr⟩, -⟩ := best_some hbt
    have hjl : j < q.length := by omega
    have hqj : q[j] = t :: r := by rw [List.getD_eq_getElem?_getD, List.getElem?_eq_getElem hjl] at hjr; exact hjr
    have hgj : (q.map lsV)[j]? = some (lsV q[j]) := by rw [List.getElem?_map, List.getElem?_eq_getElem hjl]; rfl
    obtain ⟨s, r', hsr⟩ : ∃ s r', q[i] = s :: r' := by
      have h : (0 : Int) < (q[i].length : Int) := of_decide_eq_true (by assumption)
      cases hq : q[i] with
      | nil => rw [hq] at h; simp at h
      | cons s r => exact ⟨s, r, rfl⟩
    have hpi : 0 < q[i].length := by rw [hsr]; exact Nat.succ_pos _
    have hpj : 0 < q[j].length := by rw [hqj]; exact Nat.succ_pos _
    have hi0 : ∀ h : 0 < q[i].length, q[i][0] = s := fun h => by simp [hsr]
    have hj0 : ∀ h : 0 < q[j].length, q[j][0] = t := fun h => by simp [hqj]
    have hstep2 : best q (i + 1) = if Op.bytesLess s t = true then some (i, s) else some (j, t) := by rw [hstep, hsr, hbt]; rfl
    conv => whnf
    refine ⟨_, ⟨rfl, j, by rw [hbt]; rfl, by simpa using hjl, ⟨rfl, rfl⟩⟩, ?_⟩
    repeat' (first | exact True.intro | refine ⟨_, LeL.refl _, ?_⟩ | refine ⟨_, _, _, LeL.refl _, ?_⟩ | (refine fun (b : Bool) hb => ?_; cases b <;> (first | exact absurd hb (by decide) | exact Bool.noConfusion (show true = false from hb) | exact Bool.noConfusion (show false = true from hb) | skip)) | (refine fun (hl : _ ≤ MAXL) => ?_) | refine And.intro (a := I64 _) ?_ ?_ | refine And.intro (a := _ ≤ 140737488355328) ?_ ?_ | refine ⟨_, ⟨rfl, rfl⟩, ?_⟩ | refine ⟨_, And.intro (a := I64 _) ?_ ⟨rfl, rfl⟩, ?_⟩ | refine ⟨_, _, ⟨rfl, rfl⟩, ?_⟩ | refine ⟨_, (fun _ => ⟨rfl, rfl⟩), ?_⟩ | refine And.intro (a := chkPend _ _ _ _ _ _) ?_ ?_ | refine And.intro (a := chkPast _ _ _ _ _ _ _ _) ?_ ?_ | refine ⟨⟨rfl, rfl⟩, ?_⟩ | refine And.intro (And.intro rfl rfl) ?_ | refine ⟨True.intro, ?_⟩ | refine ⟨_, ⟨_, rfl, ?_, rfl, rfl, rfl⟩, ?_⟩ | refine ⟨_, rfl, ?_, rfl, ?_⟩ | refine ⟨_, (fun _ => rfl), rfl, ?_⟩ | refine ⟨(fun _ => rfl), ?_⟩ | refine ⟨rfl, ?_⟩ | refine Opt.a ?_ | fail)
    conv => whnf
    refine ⟨_, ⟨_, hgj, ⟨rfl, rfl⟩⟩, ?_⟩
    repeat' (first | exact True.intro | refine ⟨_, LeL.refl _, ?_⟩ | refine ⟨_, _, _, LeL.refl _, ?_⟩ | (refine fun (b : Bool) hb => ?_; cases b <;> (first | exact absurd hb (by decide) | exact Bool.noConfusion (show true = false from hb) | exact Bool.noConfusion (show false = true from hb) | skip)) | (refine fun (hl : _ ≤ MAXL) => ?_) | refine And.intro (a := I64 _) ?_ ?_ | refine And.intro (a := _ ≤ 140737488355328) ?_ ?_ | refine ⟨_, ⟨rfl, rfl⟩, ?_⟩ | refine ⟨_, And.intro (a := I64 _) ?_ ⟨rfl, rfl⟩, ?_⟩ | refine ⟨_, _, ⟨rfl, rfl⟩, ?_⟩ | refine ⟨_, (fun _ => ⟨rfl, rfl⟩), ?_⟩ | refine And.intro (a := chkPend _ _ _ _ _ _) ?_ ?_ | refine And.intro (a := chkPast _ _ _ _ _ _ _ _) ?_ ?_ | refine ⟨⟨rfl, rfl⟩, ?_⟩ | refine And.intro (And.intro rfl rfl) ?_ | refine ⟨True.intro, ?_⟩ | refine ⟨_, ⟨_, rfl, ?_, rfl, rfl, rfl⟩, ?_⟩ | refine ⟨_, rfl, ?_, rfl, ?_⟩ | refine ⟨_, (fun _ => rfl), rfl, ?_⟩ | refine ⟨(fun _ => rfl), ?_⟩ | refine ⟨rfl, ?_⟩ | refine Opt.a ?_ | fail)
    all_goals first | exact hpj | (unfold I64; omega) | skip
    · have hb2 : Op.bytesLess q[i][0] q[j][0] = false := by assumption
      rw [hi0, hj0] at hb2
      rw [hb2] at hstep2
      refine ⟨i + 1, ?_, hlt, by show q.length - (i + 1) < q.length - i; omega⟩
      rw [hstep2, hbt]
      exact (by (refine wk_auto ?_; refine Sel4.mk rfl rfl ?_ ?_ <;> (repeat' (first | exact True.intro | exact rfl | exact Or.inl rfl | exact Or.inr rfl | refine And.intro ?_ ?_ | fail))))
    · have hb2 : Op.bytesLess q[i][0] q[j][0] = true := by assumption
      rw [hi0, hj0] at hb2
      rw [hb2] at hstep2
      refine ⟨i + 1, ?_, hlt, by show q.length - (i + 1) < q.length - i; omega⟩
      rw [hstep2]
      exact (by (refine wk_auto ?_; refine Sel4.mk rfl rfl ?_ ?_ <;> (repeat' (first | exact True.intro | exact rfl | exact Or.inl rfl | exact Or.inr rfl | refine And.intro ?_ ?_ | fail))))
  · unfold I64; omega
  · have h : (0 : Int) < (q[i].length : Int) := of_decide_eq_true (by assumption)
    have hb : bestI (best q i) < 0 := of_decide_eq_true (by assumption)
    have hn : best q i = none := by
      cases hq : best q i with
      | none => rfl
      | some x =>
        obtain ⟨j, s⟩ := x
        rw [hq] at hb
        have hb : (j : Int) < 0 := hb
        omega
    obtain ⟨s, r, hsr⟩ : ∃ s r, q[i] = s :: r := by
      cases hq : q[i] with
      | nil => rw [hq] at h; simp at h
      | cons s r => exact ⟨s, r, rfl⟩
    refine ⟨i + 1, ?_, hlt, by show q.length - (i + 1) < q.length - i; omega⟩
    have e : best q (i + 1) = some (i, s) := by rw [hstep, hsr, hn]; rfl
    rw [e]
    exact (by (refine wk_auto ?_; refine Sel4.mk rfl rfl ?_ ?_ <;> (repeat' (first | exact True.intro | exact rfl | exact Or.inl rfl | exact Or.inr rfl | refine And.intro ?_ ?_ | fail))))
end Gv
namespace Gv
variable [Glob] [Laid] [Errs]
theorem atoiS_ca : callable Tryz.prog 66 = true := by kernel_rfl
def atoiS_S : Spec := fun args K => ∃ (s : Bs), args = [.str s] ∧ s.length ≤ 140737488355328 ∧ (∀ k, Lib.atoiAll s = .ok k → K (.tup [.int .i64 k, .raw .nilIface])) ∧ ∀ n T b, (∀ k, Lib.atoiAll s ≠ .ok k) → K (.tup [.int .i64 n, .raw (.iface T (.pointer (some ⟨b, 0, none⟩)))])
set_option maxHeartbeats 4000000 in
theorem atoiS_ok : Pure Tryz.prog 66 atoiS_S := by
  intro w m args us K hm hg hv hT
  obtain ⟨s, rfl, h1, hok, herr⟩ := hT
  obtain ⟨a, rfl, ha⟩ := args1 hv.1 hv.2
  obtain ⟨rfl, -⟩ := vr_str ha
  have hgw : Sub Glob.mem w := fun b o e => hm b o (hg b o e)
  have two : ∀ {m : Mem} {n : Int} {u : Value}, VR m noLoc (.tup [.int .i64 n, .raw u]) (.tuple #[.int .i64 n, u]) := fun {m n u} => by
    have h : VRL m noLoc [.int .i64 n, .raw u] [.int .i64 n, u] := VRL.cons .int (VRL.cons .raw VRL.nil)
    exact .tup h.len h.el
  cases h : Lib.atoiAll s with
  | ok v =>
    refine (Tryz.strconv_Atoi_ok (ba s) (by rw [ba_size]; omega) v h w).mono fun e w' ⟨he, hw⟩ => ?_
    refine ⟨_, _, he, Bel.of_below ?_, hok v h, two⟩
    rcases hw with rfl | ⟨t, rfl⟩
    · exact RowKit.Below.refl _ _
    · exact Lib.bytesWorld_below _ _ _
  | range =>
    obtain ⟨tp, pv, e1⟩ := Errs.rng w hgw
    refine (Tryz.strconv_Atoi_range_var (ba s) (by rw [ba_size]; omega) h tp pv w e1).mono fun e w' ⟨N, he, _, _, hw⟩ => ?_
    exact ⟨_, _, he, Bel.of_below hw, herr _ _ _ (fun k => by rw [h]; intro x; cases x), two⟩
  | _ =>
    obtain ⟨tp, pv, e1⟩ := Errs.syn w hgw
    refine (Tryz.strconv_Atoi_syntax_var (ba s) (by rw [ba_size]; omega) h tp pv w e1).mono fun e w' ⟨N, he, _, _, hw⟩ => ?_
    exact ⟨_, _, he, Bel.of_below hw, herr _ _ _ (fun k => by rw [h]; intro x; cases x), two⟩
end Gv
namespace Gv
variable [Glob] [Laid] [Errs] [Nums]
theorem sumJ_ca : callable Tryz.prog 185 = true := by kernel_rfl
def sumJ_S : Spec := fun args K => ∃ p : List (List Bs), args = [.sl lsV p] ∧ (p.length ≤ 1000 ∧ ∀ l ∈ p, ∀ s ∈ l, s.length ≤ 1000000) ∧ K (.int .i64 (sumN p p.length))
noncomputable def sumJ_lib : List (Nat × Spec) := [(66, atoiS_S), (107, itoa_S)]
noncomputable def sumJ_fns : List (Nat × FnI) := []
noncomputable def sumJ_prims : List (Nat × PSpec) := []
theorem sumJ_E : EnvOK ⟨Tryz.prog, tys, sumJ_lib, sumJ_fns, sumJ_prims, []⟩ := env_ok mixed0 tys0 (.cons atoiS_ca atoiS_ok (.cons itoa_ca itoa_ok .nil)) .nil .nil rfl
set_option maxHeartbeats 8000000 in
theorem sumJ_ok : Pure Tryz.prog 185 sumJ_S := by
  refine pure_by sumJ_E 6 (fi := {fn := Tryz.f185, hooks := [], draws := [(7, [0, 1, 3, 7, 15, 31, 63, 127, 255, 511, 1023, 2047, 4095, 2047, 10239, 26623, 65535, 131071])]}) ⟨Tryz.func185, by kernel_rfl, by kernel_rfl⟩ ?_
  rintro _ K ⟨p, rfl, ⟨hp1, hp2⟩, hK⟩
  replace hK : ∀ r, r = .int .i64 (sumN p p.length) → K r := fun r h => h ▸ hK
  repeat' (first | exact True.intro | refine ⟨_, LeL.refl _, ?_⟩ | refine ⟨_, _, _, LeL.refl _, ?_⟩ | (refine fun (b : Bool) hb => ?_; cases b <;> (first | exact absurd hb (by decide) | exact Bool.noConfusion (show true = false from hb) | exact Bool.noConfusion (show false = true from hb) | skip)) | (refine fun (hl : _ ≤ MAXL) => ?_) | refine And.intro (a := I64 _) ?_ ?_ | refine And.intro (a := _ ≤ 140737488355328) ?_ ?_ | refine ⟨_, ⟨rfl, rfl⟩, ?_⟩ | refine ⟨_, And.intro (a := I64 _) ?_ ⟨rfl, rfl⟩, ?_⟩ | refine ⟨_, _, ⟨rfl, rfl⟩, ?_⟩ | refine ⟨_, (fun _ => ⟨rfl, rfl⟩), ?_⟩ | refine And.intro (a := chkPend _ _ _ _ _ _) ?_ ?_ | refine And.intro (a := chkPast _ _ _ _ _ _ _ _) ?_ ?_ | refine ⟨⟨rfl, rfl⟩, ?_⟩ | refine And.intro (And.intro rfl rfl) ?_ | refine ⟨True.intro, ?_⟩ | refine ⟨_, ⟨_, rfl, ?_, rfl, rfl, rfl⟩, ?_⟩ | refine ⟨_, rfl, ?_, rfl, ?_⟩ | refine ⟨_, (fun _ => rfl), rfl, ?_⟩ | refine ⟨(fun _ => rfl), ?_⟩ | refine ⟨rfl, ?_⟩ | refine Opt.a ?_ | fail)
  conv => whnf
  refine loop_live [8, 9] (σ := Nat × Int) (fun s => [(10, .int .i64 s.1), (3, .int .i64 s.2)]) (fun s => []) (fun s => s.1 ≤ p.length ∧ s.2 = sumN p s.1) (fun s => p.length - s.1) (0, 0) ?_
  conv => whnf
  refine ⟨(by (refine wk_auto ?_; refine Sel4.mk rfl rfl ?_ ?_ <;> (repeat' (first | exact True.intro | exact rfl | exact Or.inl rfl | exact Or.inr rfl | refine And.intro ?_ ?_ | fail)))), ⟨Nat.zero_le _, rfl⟩, fun s hs => ?_⟩
  obtain ⟨i, acc⟩ := s
  obtain ⟨hi, hacc⟩ := hs
  dsimp only at hi hacc
  have hbd := sumN_bnd p i
  rw [← hacc] at hbd
  repeat' (first | exact True.intro | refine ⟨_, LeL.refl _, ?_⟩ | refine ⟨_, _, _, LeL.refl _, ?_⟩ | (refine fun (b : Bool) hb => ?_; cases b <;> (first | exact absurd hb (by decide) | exact Bool.noConfusion (show true = false from hb) | exact Bool.noConfusion (show false = true from hb) | skip)) | (refine fun (hl : _ ≤ MAXL) => ?_) | refine And.intro (a := I64 _) ?_ ?_ | refine And.intro (a := _ ≤ 140737488355328) ?_ ?_ | refine ⟨_, ⟨rfl, rfl⟩, ?_⟩ | refine ⟨_, And.intro (a := I64 _) ?_ ⟨rfl, rfl⟩, ?_⟩ | refine ⟨_, _, ⟨rfl, rfl⟩, ?_⟩ | refine ⟨_, (fun _ => ⟨rfl, rfl⟩), ?_⟩ | refine And.intro (a := chkPend _ _ _ _ _ _) ?_ ?_ | refine And.intro (a := chkPast _ _ _ _ _ _ _ _) ?_ ?_ | refine ⟨⟨rfl, rfl⟩, ?_⟩ | refine And.intro (And.intro rfl rfl) ?_ | refine ⟨True.intro, ?_⟩ | refine ⟨_, ⟨_, rfl, ?_, rfl, rfl, rfl⟩, ?_⟩ | refine ⟨_, rfl, ?_, rfl, ?_⟩ | refine ⟨_, (fun _ => rfl), rfl, ?_⟩ | refine ⟨(fun _ => rfl), ?_⟩ | refine ⟨rfl, ?_⟩ | refine Opt.a ?_ | fail)
  · have hge : ¬ (i : Int) < (p.length : Int) := of_decide_eq_false (by assumption)
    have ei : i = p.length := by omega
    conv => whnf
    exact hK _ (by rw [hacc, ei])
  · have h := of_decide_eq_true (by assumption : decide ((i : Int) < (p.length : Int)) = true)
    show i < p.length
    omega
  all_goals have hlt : i < p.length := by (have h := of_decide_eq_true (by assumption : decide ((i : Int) < (p.length : Int)) = true); omega)
  all_goals have hgd : p.getD i [] = p[i] := by (rw [List.getD_eq_getElem?_getD, List.getElem?_eq_getElem hlt]; rfl)
  all_goals have hnx : sumN p (i + 1) = sumN p i + numH p[i] := by rw [sumN, hgd]
  · have h : ¬ (p[i].length : Int) = 0 := of_decide_eq_false (by assumption)
    have h0 : 0 < p[i].length := by omega
    exact h0
  · have h : ¬ (p[i].length : Int) = 0 := of_decide_eq_false (by assumption)
    obtain ⟨s, r, hsr⟩ : ∃ s r, p[i] = s :: r := by
      cases hq : p[i] with
      | nil => rw [hq] at h; simp at h
      | cons s r => exact ⟨s, r, rfl⟩
    have hs0 : ∀ h : 0 < p[i].length, p[i][0] = s := fun h => by simp [hsr]
    have hp0 : 0 < p[i].length := by rw [hsr]; exact Nat.succ_pos _
    have hsl : s.length ≤ 1000000 := hp2 _ (List.getElem_mem hlt) s (by rw [hsr]; simp)
    have hnh : numH p[i] = numOf s := by rw [hsr]; rfl
    conv => whnf
    refine ⟨p[i][0], rfl, by rw [hs0 hp0]; omega, fun k hk => ?_, fun n T b hn => ?_⟩
    · rw [hs0 hp0] at hk
      have hkb := Lib.atoiAll_bounds hk
      have hno : numOf s = if 0 ≤ k ∧ k ≤ 4000 ∧ Lib.itoa k = s then k else 0 := by unfold numOf; rw [hk]
      have hz : ∀ h : ¬ (0 ≤ k ∧ k ≤ 4000 ∧ Lib.itoa k = s), sumN p (i + 1) = sumN p i := fun h => by rw [hnx, hnh, hno, if_neg h]; omega
      repeat' (first | exact True.intro | refine ⟨_, LeL.refl _, ?_⟩ | refine ⟨_, _, _, LeL.refl _, ?_⟩ | (refine fun (b : Bool) hb => ?_; cases b <;> (first | exact absurd hb (by decide) | exact Bool.noConfusion (show true = false from hb) | exact Bool.noConfusion (show false = true from hb) | skip)) | (refine fun (hl : _ ≤ MAXL) => ?_) | refine And.intro (a := I64 _) ?_ ?_ | refine And.intro (a := _ ≤ 140737488355328) ?_ ?_ | refine ⟨_, ⟨rfl, rfl⟩, ?_⟩ | refine ⟨_, And.intro (a := I64 _) ?_ ⟨rfl, rfl⟩, ?_⟩ | refine ⟨_, _, ⟨rfl, rfl⟩, ?_⟩ | refine ⟨_, (fun _ => ⟨rfl, rfl⟩), ?_⟩ | refine And.intro (a := chkPend _ _ _ _ _ _) ?_ ?_ | refine And.intro (a := chkPast _ _ _ _ _ _ _ _) ?_ ?_ | refine ⟨⟨rfl, rfl⟩, ?_⟩ | refine And.intro (And.intro rfl rfl) ?_ | refine ⟨True.intro, ?_⟩ | refine ⟨_, ⟨_, rfl, ?_, rfl, rfl, rfl⟩, ?_⟩ | refine ⟨_, rfl, ?_, rfl, ?_⟩ | refine ⟨_, (fun _ => rfl), rfl, ?_⟩ | refine ⟨(fun _ => rfl), ?_⟩ | refine ⟨rfl, ?_⟩ | refine Opt.a ?_ | fail)
      · unfold I64; omega
      · have h : ¬ (0 : Int) ≤ k := of_decide_eq_false (by assumption)
        exact ⟨(i + 1, acc), (by (refine wk_auto ?_; refine Sel4.mk rfl rfl ?_ ?_ <;> (repeat' (first | exact True.intro | exact rfl | exact Or.inl rfl | exact Or.inr rfl | refine And.intro ?_ ?_ | fail)))), ⟨hlt, by show acc = _; rw [hz (fun e => h e.1), hacc]⟩, by show p.length - (i + 1) < p.length - i; omega⟩
      · unfold I64; omega
      · have h : ¬ k ≤ 4000 := of_decide_eq_false (by assumption)
        exact ⟨(i + 1, acc), (by (refine wk_auto ?_; refine Sel4.mk rfl rfl ?_ ?_ <;> (repeat' (first | exact True.intro | exact rfl | exact Or.inl rfl | exact Or.inr rfl | refine And.intro ?_ ?_ | fail)))), ⟨hlt, by show acc = _; rw [hz (fun e => h e.2.1), hacc]⟩, by show p.length - (i + 1) < p.length - i; omega⟩
      apply Exists.intro
      apply And.intro
      · refine ⟨k, rfl, hkb, ?_⟩
        exact ⟨rfl, rfl⟩
      repeat' (first | exact True.intro | refine ⟨_, LeL.refl _, ?_⟩ | refine ⟨_, _, _, LeL.refl _, ?_⟩ | (refine fun (b : Bool) hb => ?_; cases b <;> (first | exact absurd hb (by decide) | exact Bool.noConfusion (show true = false from hb) | exact Bool.noConfusion (show false = true from hb) | skip)) | (refine fun (hl : _ ≤ MAXL) => ?_) | refine And.intro (a := I64 _) ?_ ?_ | refine And.intro (a := _ ≤ 140737488355328) ?_ ?_ | refine ⟨_, ⟨rfl, rfl⟩, ?_⟩ | refine ⟨_, And.intro (a := I64 _) ?_ ⟨rfl, rfl⟩, ?_⟩ | refine ⟨_, _, ⟨rfl, rfl⟩, ?_⟩ | refine ⟨_, (fun _ => ⟨rfl, rfl⟩), ?_⟩ | refine And.intro (a := chkPend _ _ _ _ _ _) ?_ ?_ | refine And.intro (a := chkPast _ _ _ _ _ _ _ _) ?_ ?_ | refine ⟨⟨rfl, rfl⟩, ?_⟩ | refine And.intro (And.intro rfl rfl) ?_ | refine ⟨True.intro, ?_⟩ | refine ⟨_, ⟨_, rfl, ?_, rfl, rfl, rfl⟩, ?_⟩ | refine ⟨_, rfl, ?_, rfl, ?_⟩ | refine ⟨_, (fun _ => rfl), rfl, ?_⟩ | refine ⟨(fun _ => rfl), ?_⟩ | refine ⟨rfl, ?_⟩ | refine Opt.a ?_ | fail)
      · exact hp0
      · unfold I64; omega
      · have h : ¬ Lib.itoa k = p[i][0] := of_decide_eq_false (by assumption)
        rw [hs0 hp0] at h
        exact ⟨(i + 1, acc), (by (refine wk_auto ?_; refine Sel4.mk rfl rfl ?_ ?_ <;> (repeat' (first | exact True.intro | exact rfl | exact Or.inl rfl | exact Or.inr rfl | refine And.intro ?_ ?_ | fail)))), ⟨hlt, by show acc = _; rw [hz (fun e => h e.2.2), hacc]⟩, by show p.length - (i + 1) < p.length - i; omega⟩
      · have h2 : k ≤ 4000 := of_decide_eq_true (by assumption)
        unfold I64; omega
      · unfold I64; omega
      · have h : Lib.itoa k = p[i][0] := of_decide_eq_true (by assumption)
        rw [hs0 hp0] at h
        have h1 : (0 : Int) ≤ k := of_decide_eq_true (by assumption)
        have h2 : k ≤ 4000 := of_decide_eq_true (by assumption)
        exact ⟨(i + 1, acc + k), (by (refine wk_auto ?_; refine Sel4.mk rfl rfl ?_ ?_ <;> (repeat' (first | exact True.intro | exact rfl | exact Or.inl rfl | exact Or.inr rfl | refine And.intro ?_ ?_ | fail)))), ⟨hlt, by show acc + k = _; rw [hnx, hnh, hno, if_pos ⟨h1, h2, h⟩, hacc]⟩, by show p.length - (i + 1) < p.length - i; omega⟩
    · rw [hs0 hp0] at hn
      have hno : numOf s = 0 := by
        unfold numOf
        cases h : Lib.atoiAll s with
        | ok k => exact absurd h (hn k)
        | _ => rfl
      repeat' (first | exact True.intro | refine ⟨_, LeL.refl _, ?_⟩ | refine ⟨_, _, _, LeL.refl _, ?_⟩ | (refine fun (b : Bool) hb => ?_; cases b <;> (first | exact absurd hb (by decide) | exact Bool.noConfusion (show true = false from hb) | exact Bool.noConfusion (show false = true from hb) | skip)) | (refine fun (hl : _ ≤ MAXL) => ?_) | refine And.intro (a := I64 _) ?_ ?_ | refine And.intro (a := _ ≤ 140737488355328) ?_ ?_ | refine ⟨_, ⟨rfl, rfl⟩, ?_⟩ | refine ⟨_, And.intro (a := I64 _) ?_ ⟨rfl, rfl⟩, ?_⟩ | refine ⟨_, _, ⟨rfl, rfl⟩, ?_⟩ | refine ⟨_, (fun _ => ⟨rfl, rfl⟩), ?_⟩ | refine And.intro (a := chkPend _ _ _ _ _ _) ?_ ?_ | refine And.intro (a := chkPast _ _ _ _ _ _ _ _) ?_ ?_ | refine ⟨⟨rfl, rfl⟩, ?_⟩ | refine And.intro (And.intro rfl rfl) ?_ | refine ⟨True.intro, ?_⟩ | refine ⟨_, ⟨_, rfl, ?_, rfl, rfl, rfl⟩, ?_⟩ | refine ⟨_, rfl, ?_, rfl, ?_⟩ | refine ⟨_, (fun _ => rfl), rfl, ?_⟩ | refine ⟨(fun _ => rfl), ?_⟩ | refine ⟨rfl, ?_⟩ | refine Opt.a ?_ | fail)
      · unfold I64; omega
      · have e : sumN p (i + 1) = sumN p i := by rw [hnx, hnh, hno]; omega
        exact ⟨(i + 1, acc), (by (refine wk_auto ?_; refine Sel4.mk rfl rfl ?_ ?_ <;> (repeat' (first | exact True.intro | exact rfl | exact Or.inl rfl | exact Or.inr rfl | refine And.intro ?_ ?_ | fail)))), ⟨hlt, by show acc = _; rw [e, hacc]⟩, by show p.length - (i + 1) < p.length - i; omega⟩
  · unfold I64; omega
  · have h : (p[i].length : Int) = 0 := of_decide_eq_true (by assumption)
    have h0 : p[i] = [] := List.length_eq_zero_iff.1 (by omega)
    have e : sumN p (i + 1) = sumN p i := by rw [hnx, h0]; show _ + 0 = _; omega
    exact ⟨(i + 1, acc), (by (refine wk_auto ?_; refine Sel4.mk rfl rfl ?_ ?_ <;> (repeat' (first | exact True.intro | exact rfl | exact Or.inl rfl | exact Or.inr rfl | refine And.intro ?_ ?_ | fail)))), ⟨hlt, by show acc = _; rw [e, hacc]⟩, by show p.length - (i + 1) < p.length - i; omega⟩
end Gv
namespace Gv
variable [Glob] [Laid]
theorem concatSL_ca : callable Tryz.prog 186 = true := by kernel_rfl
def concatSL_S : Spec := fun args K => ∃ a : List (List Bs), args = [.sl lsV a] ∧ a.flatten.length ≤ 1000000 ∧ K (.sl strV a.flatten)
noncomputable def concatSL_lib : List (Nat × Spec) := []
noncomputable def concatSL_fns : List (Nat × FnI) := [(252, {fn := Tryz.f252, hooks := [], draws := []})]
noncomputable def concatSL_prims : List (Nat × PSpec) := []
theorem concatSL_E : EnvOK ⟨Tryz.prog, tys, concatSL_lib, concatSL_fns, concatSL_prims, []⟩ := env_ok mixed0 tys0 .nil (.cons (by kernel_rfl) ⟨Tryz.func252, by kernel_rfl, by kernel_rfl⟩ .nil) .nil rfl
set_option maxHeartbeats 4000000 in
theorem concatSL_ok : Pure Tryz.prog 186 concatSL_S := by
  refine pure_by concatSL_E 6 (fi := {fn := Tryz.f186, hooks := [10], draws := []}) ⟨Tryz.func186, by kernel_rfl, by kernel_rfl⟩ ?_
  rintro _ K ⟨x, rfl, hx, hK⟩
  replace hK : ∀ p, p = .sl strV x.flatten → K p := fun r h => h ▸ hK
  obtain ⟨f, hf⟩ : ∃ f : Nat → List Bs, ∀ i, f i = (x.take i).flatten := ⟨_, fun _ => rfl⟩
  have f0 : f 0 = [] := by simp [hf]
  have fS : ∀ i (h : i < x.length), f (i + 1) = f i ++ x[i] := fun i h => by
    rw [hf, hf, List.take_succ_eq_append_getElem h]
    simp only [List.flatten_append, List.flatten_cons, List.flatten_nil, List.append_nil]
  have fN : ∀ i, x.length ≤ i → f i = x.flatten := fun i h => by simp [hf, List.take_of_length_le h]
  have fl : ∀ i, (f i).length ≤ 1000000 := fun i => by
    rw [← List.take_append_drop i x] at hx
    simp only [List.flatten_append, List.length_append] at hx
    rw [hf]; omega
  clear hf
  refine fun (hl : _ ≤ MAXL) => ?_
  conv => whnf
  refine loop_intro (σ := Nat) (fun i => [(0, .sl lsV x), (2, .nil), (9, .sl lsV x), (10, .int .i64 x.length), (11, .int .i64 i), (3, .int .i64 ((f i).length : Nat))]) (fun _ => []) (fun i => i ≤ x.length) (fun i => x.length - i) 0 (wk_sel [] rfl rfl trivial ?_) (Nat.zero_le _) ?_
  · simp only [f0]
    (repeat' (first | exact True.intro | exact rfl | exact Or.inl rfl | exact Or.inr rfl | refine And.intro ?_ ?_ | fail))
  intro i hi
  have hs := fl i
  repeat' (first | exact True.intro | refine ⟨_, LeL.refl _, ?_⟩ | refine ⟨_, _, _, LeL.refl _, ?_⟩ | (refine fun (b : Bool) hb => ?_; cases b <;> (first | exact absurd hb (by decide) | exact Bool.noConfusion (show true = false from hb) | exact Bool.noConfusion (show false = true from hb) | skip)) | (refine fun (hl : _ ≤ MAXL) => ?_) | refine And.intro (a := I64 _) ?_ ?_ | refine And.intro (a := _ ≤ 140737488355328) ?_ ?_ | refine ⟨_, ⟨rfl, rfl⟩, ?_⟩ | refine ⟨_, And.intro (a := I64 _) ?_ ⟨rfl, rfl⟩, ?_⟩ | refine ⟨_, _, ⟨rfl, rfl⟩, ?_⟩ | refine ⟨_, (fun _ => ⟨rfl, rfl⟩), ?_⟩ | refine And.intro (a := chkPend _ _ _ _ _ _) ?_ ?_ | refine And.intro (a := chkPast _ _ _ _ _ _ _ _) ?_ ?_ | refine ⟨⟨rfl, rfl⟩, ?_⟩ | refine And.intro (And.intro rfl rfl) ?_ | refine ⟨True.intro, ?_⟩ | refine ⟨_, ⟨_, rfl, ?_, rfl, rfl, rfl⟩, ?_⟩ | refine ⟨_, rfl, ?_, rfl, ?_⟩ | refine ⟨_, (fun _ => rfl), rfl, ?_⟩ | refine ⟨(fun _ => rfl), ?_⟩ | refine ⟨rfl, ?_⟩ | refine Opt.a ?_ | fail)
  · conv => whnf
    refine join_intro (σ := Unit) (fun _ => [(0, .sl lsV x), (2, .nil), (6, .own 0)]) (fun _ => [.row 1 []]) (fun _ => True) ?_ ?_
    · repeat' (first | exact True.intro | refine ⟨_, LeL.refl _, ?_⟩ | refine ⟨_, _, _, LeL.refl _, ?_⟩ | (refine fun (b : Bool) hb => ?_; cases b <;> (first | exact absurd hb (by decide) | exact Bool.noConfusion (show true = false from hb) | exact Bool.noConfusion (show false = true from hb) | skip)) | (refine fun (hl : _ ≤ MAXL) => ?_) | refine And.intro (a := I64 _) ?_ ?_ | refine And.intro (a := _ ≤ 140737488355328) ?_ ?_ | refine ⟨_, ⟨rfl, rfl⟩, ?_⟩ | refine ⟨_, And.intro (a := I64 _) ?_ ⟨rfl, rfl⟩, ?_⟩ | refine ⟨_, _, ⟨rfl, rfl⟩, ?_⟩ | refine ⟨_, (fun _ => ⟨rfl, rfl⟩), ?_⟩ | refine And.intro (a := chkPend _ _ _ _ _ _) ?_ ?_ | refine And.intro (a := chkPast _ _ _ _ _ _ _ _) ?_ ?_ | refine ⟨⟨rfl, rfl⟩, ?_⟩ | refine And.intro (And.intro rfl rfl) ?_ | refine ⟨True.intro, ?_⟩ | refine ⟨_, ⟨_, rfl, ?_, rfl, rfl, rfl⟩, ?_⟩ | refine ⟨_, rfl, ?_, rfl, ?_⟩ | refine ⟨_, (fun _ => rfl), rfl, ?_⟩ | refine ⟨(fun _ => rfl), ?_⟩ | refine ⟨rfl, ?_⟩ | refine Opt.a ?_ | fail)
      · unfold I64; omega
      · unfold I64; omega
      · refine ⟨(), wk_sel [none] rfl rfl trivial ?_, trivial⟩
        (repeat' (first | exact True.intro | exact rfl | exact Or.inl rfl | exact Or.inr rfl | refine And.intro ?_ ?_ | fail))
      · refine ⟨(f i).length, by simp, by grind, by simp only [Nat.mul_one]; omega, ?_⟩
        refine fun _ => ?_
        refine ⟨0, rfl, Nat.zero_le _, ?_⟩
        refine ⟨(), wk_sel [some 1] rfl rfl ⟨rfl, trivial⟩ ?_, trivial⟩
        (repeat' (first | exact True.intro | exact rfl | exact Or.inl rfl | exact Or.inr rfl | refine And.intro ?_ ?_ | fail))
    intro _ _
    refine fun (hl : _ ≤ MAXL) => ?_
    conv => whnf
    refine loop_intro (σ := Nat) (fun i => [(0, .sl lsV x), (2, .nil), (6, .own 0), (25, .sl lsV x), (26, .int .i64 x.length), (27, .int .i64 i)]) (fun i => [.row 1 ((f i).map strV)]) (fun i => i ≤ x.length) (fun i => x.length - i) 0 (wk_sel [some 0] rfl rfl ⟨?_, trivial⟩ ?_) (Nat.zero_le _) ?_
    · rw [f0]; exact rfl
    · (repeat' (first | exact True.intro | exact rfl | exact Or.inl rfl | exact Or.inr rfl | refine And.intro ?_ ?_ | fail))
    intro i hi
    have hs := fl i
    repeat' (first | exact True.intro | refine ⟨_, LeL.refl _, ?_⟩ | refine ⟨_, _, _, LeL.refl _, ?_⟩ | (refine fun (b : Bool) hb => ?_; cases b <;> (first | exact absurd hb (by decide) | exact Bool.noConfusion (show true = false from hb) | exact Bool.noConfusion (show false = true from hb) | skip)) | (refine fun (hl : _ ≤ MAXL) => ?_) | refine And.intro (a := I64 _) ?_ ?_ | refine And.intro (a := _ ≤ 140737488355328) ?_ ?_ | refine ⟨_, ⟨rfl, rfl⟩, ?_⟩ | refine ⟨_, And.intro (a := I64 _) ?_ ⟨rfl, rfl⟩, ?_⟩ | refine ⟨_, _, ⟨rfl, rfl⟩, ?_⟩ | refine ⟨_, (fun _ => ⟨rfl, rfl⟩), ?_⟩ | refine And.intro (a := chkPend _ _ _ _ _ _) ?_ ?_ | refine And.intro (a := chkPast _ _ _ _ _ _ _ _) ?_ ?_ | refine ⟨⟨rfl, rfl⟩, ?_⟩ | refine And.intro (And.intro rfl rfl) ?_ | refine ⟨True.intro, ?_⟩ | refine ⟨_, ⟨_, rfl, ?_, rfl, rfl, rfl⟩, ?_⟩ | refine ⟨_, rfl, ?_, rfl, ?_⟩ | refine ⟨_, (fun _ => rfl), rfl, ?_⟩ | refine ⟨(fun _ => rfl), ?_⟩ | refine ⟨rfl, ?_⟩ | refine Opt.a ?_ | refine ⟨Bs, strV, ?_⟩ | fail)
    · refine hK _ ?_
      rw [fN i (by grind)]
    · grind
    · have := fl (i + 1)
      rw [fS i (by grind)] at this
      simp only [List.length_append, List.length_map, lsV, elsOf] at this ⊢
      omega
    · unfold I64; grind
    · refine ⟨i + 1, ?_, ?_, ?_⟩
      · refine wk_sel [some 1] rfl rfl ⟨?_, trivial⟩ ?_
        · rw [fS i (by grind), List.map_append]
          exact rfl
        · (repeat' (first | exact True.intro | exact rfl | exact Or.inl rfl | exact Or.inr rfl | refine And.intro ?_ ?_ | fail))
      · grind
      · grind
  · grind
  · unfold I64; grind
  · unfold I64; grind
  · refine ⟨i + 1, ?_, ?_, ?_⟩
    · refine wk_sel [] rfl rfl trivial ?_
      rw [fS i (by grind)]
      simp only [List.length_append]
      (repeat' (first | exact True.intro | exact rfl | exact Or.inl rfl | exact Or.inr rfl | refine And.intro ?_ ?_ | fail))
    · grind
    · grind
end Gv
namespace Gv
variable [Glob] [Laid] [Errs] [Nums]
theorem joinL_ca : callable Tryz.prog 133 = true := by kernel_rfl
def joinL_S : Spec := fun args K => ∃ (h : Int) (c : Cmd) (p : List (List Bs)), args = [.int .i64 h, cmdV c, .sl lsV p] ∧ ((h = 4 → checkCmd c = 0) ∧ p.length ≤ 1000 ∧ p.flatten.length ≤ 900000 ∧ ∀ l ∈ p, ∀ s ∈ l, s.length ≤ 900000) ∧ K (.sl strV (joinB h c p))
noncomputable def joinL_lib : List (Nat × Spec) := [(184, mergeJ_S), (185, sumJ_S), (107, itoa_S), (98, linesC_S), (186, concatSL_S)]
noncomputable def joinL_fns : List (Nat × FnI) := []
noncomputable def joinL_prims : List (Nat × PSpec) := []
theorem joinL_E : EnvOK ⟨Tryz.prog, tys, joinL_lib, joinL_fns, joinL_prims, []⟩ := env_ok mixed0 tys0 (.cons mergeJ_ca mergeJ_ok (.cons sumJ_ca sumJ_ok (.cons itoa_ca itoa_ok (.cons linesC_ca linesC_ok (.cons concatSL_ca concatSL_ok .nil))))) .nil .nil rfl
set_option maxHeartbeats 4000000 in
theorem joinL_ok : Pure Tryz.prog 133 joinL_S := by
  refine pure_by joinL_E 6 (fi := {fn := Tryz.f133, hooks := [], draws := []}) ⟨Tryz.func133, by kernel_rfl, by kernel_rfl⟩ ?_
  rintro _ K ⟨h, c, p, rfl, ⟨hc, hp1, hp2, hp3⟩, hK⟩
  replace hK : ∀ r, r = .sl strV (joinB h c p) → K r := fun r h => h ▸ hK
  have hb := sumN_bnd p p.length
  unfold joinB at hK
  repeat' (first | exact True.intro | refine ⟨_, LeL.refl _, ?_⟩ | refine ⟨_, _, _, LeL.refl _, ?_⟩ | (refine fun (b : Bool) hb => ?_; cases b <;> (first | exact absurd hb (by decide) | exact Bool.noConfusion (show true = false from hb) | exact Bool.noConfusion (show false = true from hb) | skip)) | (refine fun (hl : _ ≤ MAXL) => ?_) | refine And.intro (a := I64 _) ?_ ?_ | refine And.intro (a := _ ≤ 140737488355328) ?_ ?_ | refine ⟨_, ⟨rfl, rfl⟩, ?_⟩ | refine ⟨_, And.intro (a := I64 _) ?_ ⟨rfl, rfl⟩, ?_⟩ | refine ⟨_, _, ⟨rfl, rfl⟩, ?_⟩ | refine ⟨_, (fun _ => ⟨rfl, rfl⟩), ?_⟩ | refine And.intro (a := chkPend _ _ _ _ _ _) ?_ ?_ | refine And.intro (a := chkPast _ _ _ _ _ _ _ _) ?_ ?_ | refine ⟨⟨rfl, rfl⟩, ?_⟩ | refine And.intro (And.intro rfl rfl) ?_ | refine ⟨True.intro, ?_⟩ | refine ⟨_, ⟨_, rfl, ?_, rfl, rfl, rfl⟩, ?_⟩ | refine ⟨_, rfl, ?_, rfl, ?_⟩ | refine ⟨_, (fun _ => rfl), rfl, ?_⟩ | refine ⟨(fun _ => rfl), ?_⟩ | refine ⟨rfl, ?_⟩ | refine Opt.a ?_ | fail)
  · have h2 : ¬ h = 2 := of_decide_eq_false (by assumption)
    have h3 : ¬ h = 3 := of_decide_eq_false (by assumption)
    rw [if_neg h2, if_neg h3] at hK
    repeat' (first | exact True.intro | refine ⟨_, LeL.refl _, ?_⟩ | refine ⟨_, _, _, LeL.refl _, ?_⟩ | (refine fun (b : Bool) hb => ?_; cases b <;> (first | exact absurd hb (by decide) | exact Bool.noConfusion (show true = false from hb) | exact Bool.noConfusion (show false = true from hb) | skip)) | (refine fun (hl : _ ≤ MAXL) => ?_) | refine And.intro (a := I64 _) ?_ ?_ | refine And.intro (a := _ ≤ 140737488355328) ?_ ?_ | refine ⟨_, ⟨rfl, rfl⟩, ?_⟩ | refine ⟨_, And.intro (a := I64 _) ?_ ⟨rfl, rfl⟩, ?_⟩ | refine ⟨_, _, ⟨rfl, rfl⟩, ?_⟩ | refine ⟨_, (fun _ => ⟨rfl, rfl⟩), ?_⟩ | refine And.intro (a := chkPend _ _ _ _ _ _) ?_ ?_ | refine And.intro (a := chkPast _ _ _ _ _ _ _ _) ?_ ?_ | refine ⟨⟨rfl, rfl⟩, ?_⟩ | refine And.intro (And.intro rfl rfl) ?_ | refine ⟨True.intro, ?_⟩ | refine ⟨_, ⟨_, rfl, ?_, rfl, rfl, rfl⟩, ?_⟩ | refine ⟨_, rfl, ?_, rfl, ?_⟩ | refine ⟨_, (fun _ => rfl), rfl, ?_⟩ | refine ⟨(fun _ => rfl), ?_⟩ | refine ⟨rfl, ?_⟩ | refine Opt.a ?_ | fail)
    refine ⟨p, rfl, by omega, ?_⟩
    repeat' (first | exact True.intro | refine ⟨_, LeL.refl _, ?_⟩ | refine ⟨_, _, _, LeL.refl _, ?_⟩ | (refine fun (b : Bool) hb => ?_; cases b <;> (first | exact absurd hb (by decide) | exact Bool.noConfusion (show true = false from hb) | exact Bool.noConfusion (show false = true from hb) | skip)) | (refine fun (hl : _ ≤ MAXL) => ?_) | refine And.intro (a := I64 _) ?_ ?_ | refine And.intro (a := _ ≤ 140737488355328) ?_ ?_ | refine ⟨_, ⟨rfl, rfl⟩, ?_⟩ | refine ⟨_, And.intro (a := I64 _) ?_ ⟨rfl, rfl⟩, ?_⟩ | refine ⟨_, _, ⟨rfl, rfl⟩, ?_⟩ | refine ⟨_, (fun _ => ⟨rfl, rfl⟩), ?_⟩ | refine And.intro (a := chkPend _ _ _ _ _ _) ?_ ?_ | refine And.intro (a := chkPast _ _ _ _ _ _ _ _) ?_ ?_ | refine ⟨⟨rfl, rfl⟩, ?_⟩ | refine And.intro (And.intro rfl rfl) ?_ | refine ⟨True.intro, ?_⟩ | refine ⟨_, ⟨_, rfl, ?_, rfl, rfl, rfl⟩, ?_⟩ | refine ⟨_, rfl, ?_, rfl, ?_⟩ | refine ⟨_, (fun _ => rfl), rfl, ?_⟩ | refine ⟨(fun _ => rfl), ?_⟩ | refine ⟨rfl, ?_⟩ | refine Opt.a ?_ | fail)
    · have h4 : ¬ h = 4 := of_decide_eq_false (by assumption)
      rw [if_neg h4] at hK
      exact hK _ rfl
    · have h4 : h = 4 := of_decide_eq_true (by assumption)
      rw [if_pos h4] at hK
      refine ⟨c, p.flatten, rfl, ⟨hc h4, hp2, fun s hs => ?_⟩, ?_⟩
      · obtain ⟨l, hl, hsl⟩ := List.mem_flatten.1 hs
        exact hp3 l hl s hsl
      repeat' (first | exact True.intro | refine ⟨_, LeL.refl _, ?_⟩ | refine ⟨_, _, _, LeL.refl _, ?_⟩ | (refine fun (b : Bool) hb => ?_; cases b <;> (first | exact absurd hb (by decide) | exact Bool.noConfusion (show true = false from hb) | exact Bool.noConfusion (show false = true from hb) | skip)) | (refine fun (hl : _ ≤ MAXL) => ?_) | refine And.intro (a := I64 _) ?_ ?_ | refine And.intro (a := _ ≤ 140737488355328) ?_ ?_ | refine ⟨_, ⟨rfl, rfl⟩, ?_⟩ | refine ⟨_, And.intro (a := I64 _) ?_ ⟨rfl, rfl⟩, ?_⟩ | refine ⟨_, _, ⟨rfl, rfl⟩, ?_⟩ | refine ⟨_, (fun _ => ⟨rfl, rfl⟩), ?_⟩ | refine And.intro (a := chkPend _ _ _ _ _ _) ?_ ?_ | refine And.intro (a := chkPast _ _ _ _ _ _ _ _) ?_ ?_ | refine ⟨⟨rfl, rfl⟩, ?_⟩ | refine And.intro (And.intro rfl rfl) ?_ | refine ⟨True.intro, ?_⟩ | refine ⟨_, ⟨_, rfl, ?_, rfl, rfl, rfl⟩, ?_⟩ | refine ⟨_, rfl, ?_, rfl, ?_⟩ | refine ⟨_, (fun _ => rfl), rfl, ?_⟩ | refine ⟨(fun _ => rfl), ?_⟩ | refine ⟨rfl, ?_⟩ | refine Opt.a ?_ | fail)
      exact hK _ rfl
  · have h2 : ¬ h = 2 := of_decide_eq_false (by assumption)
    have h3 : h = 3 := of_decide_eq_true (by assumption)
    rw [if_neg h2, if_pos h3] at hK
    repeat' (first | exact True.intro | refine ⟨_, LeL.refl _, ?_⟩ | refine ⟨_, _, _, LeL.refl _, ?_⟩ | (refine fun (b : Bool) hb => ?_; cases b <;> (first | exact absurd hb (by decide) | exact Bool.noConfusion (show true = false from hb) | exact Bool.noConfusion (show false = true from hb) | skip)) | (refine fun (hl : _ ≤ MAXL) => ?_) | refine And.intro (a := I64 _) ?_ ?_ | refine And.intro (a := _ ≤ 140737488355328) ?_ ?_ | refine ⟨_, ⟨rfl, rfl⟩, ?_⟩ | refine ⟨_, And.intro (a := I64 _) ?_ ⟨rfl, rfl⟩, ?_⟩ | refine ⟨_, _, ⟨rfl, rfl⟩, ?_⟩ | refine ⟨_, (fun _ => ⟨rfl, rfl⟩), ?_⟩ | refine And.intro (a := chkPend _ _ _ _ _ _) ?_ ?_ | refine And.intro (a := chkPast _ _ _ _ _ _ _ _) ?_ ?_ | refine ⟨⟨rfl, rfl⟩, ?_⟩ | refine And.intro (And.intro rfl rfl) ?_ | refine ⟨True.intro, ?_⟩ | refine ⟨_, ⟨_, rfl, ?_, rfl, rfl, rfl⟩, ?_⟩ | refine ⟨_, rfl, ?_, rfl, ?_⟩ | refine ⟨_, (fun _ => rfl), rfl, ?_⟩ | refine ⟨(fun _ => rfl), ?_⟩ | refine ⟨rfl, ?_⟩ | refine Opt.a ?_ | fail)
    refine ⟨p, rfl, ⟨hp1, fun l hl s hs => by have := hp3 l hl s hs; omega⟩, ?_⟩
    refine ⟨_, rfl, ⟨by omega, by omega⟩, ?_⟩
    repeat' (first | exact True.intro | refine ⟨_, LeL.refl _, ?_⟩ | refine ⟨_, _, _, LeL.refl _, ?_⟩ | (refine fun (b : Bool) hb => ?_; cases b <;> (first | exact absurd hb (by decide) | exact Bool.noConfusion (show true = false from hb) | exact Bool.noConfusion (show false = true from hb) | skip)) | (refine fun (hl : _ ≤ MAXL) => ?_) | refine And.intro (a := I64 _) ?_ ?_ | refine And.intro (a := _ ≤ 140737488355328) ?_ ?_ | refine ⟨_, ⟨rfl, rfl⟩, ?_⟩ | refine ⟨_, And.intro (a := I64 _) ?_ ⟨rfl, rfl⟩, ?_⟩ | refine ⟨_, _, ⟨rfl, rfl⟩, ?_⟩ | refine ⟨_, (fun _ => ⟨rfl, rfl⟩), ?_⟩ | refine And.intro (a := chkPend _ _ _ _ _ _) ?_ ?_ | refine And.intro (a := chkPast _ _ _ _ _ _ _ _) ?_ ?_ | refine ⟨⟨rfl, rfl⟩, ?_⟩ | refine And.intro (And.intro rfl rfl) ?_ | refine ⟨True.intro, ?_⟩ | refine ⟨_, ⟨_, rfl, ?_, rfl, rfl, rfl⟩, ?_⟩ | refine ⟨_, rfl, ?_, rfl, ?_⟩ | refine ⟨_, (fun _ => rfl), rfl, ?_⟩ | refine ⟨(fun _ => rfl), ?_⟩ | refine ⟨rfl, ?_⟩ | refine Opt.a ?_ | fail)
    refine ⟨Bs, strV, [Lib.itoa (sumN p p.length)], LeL.refl _, ?_⟩
    exact hK _ rfl
  · have h2 : h = 2 := of_decide_eq_true (by assumption)
    rw [if_pos h2] at hK
    repeat' (first | exact True.intro | refine ⟨_, LeL.refl _, ?_⟩ | refine ⟨_, _, _, LeL.refl _, ?_⟩ | (refine fun (b : Bool) hb => ?_; cases b <;> (first | exact absurd hb (by decide) | exact Bool.noConfusion (show true = false from hb) | exact Bool.noConfusion (show false = true from hb) | skip)) | (refine fun (hl : _ ≤ MAXL) => ?_) | refine And.intro (a := I64 _) ?_ ?_ | refine And.intro (a := _ ≤ 140737488355328) ?_ ?_ | refine ⟨_, ⟨rfl, rfl⟩, ?_⟩ | refine ⟨_, And.intro (a := I64 _) ?_ ⟨rfl, rfl⟩, ?_⟩ | refine ⟨_, _, ⟨rfl, rfl⟩, ?_⟩ | refine ⟨_, (fun _ => ⟨rfl, rfl⟩), ?_⟩ | refine And.intro (a := chkPend _ _ _ _ _ _) ?_ ?_ | refine And.intro (a := chkPast _ _ _ _ _ _ _ _) ?_ ?_ | refine ⟨⟨rfl, rfl⟩, ?_⟩ | refine And.intro (And.intro rfl rfl) ?_ | refine ⟨True.intro, ?_⟩ | refine ⟨_, ⟨_, rfl, ?_, rfl, rfl, rfl⟩, ?_⟩ | refine ⟨_, rfl, ?_, rfl, ?_⟩ | refine ⟨_, (fun _ => rfl), rfl, ?_⟩ | refine ⟨(fun _ => rfl), ?_⟩ | refine ⟨rfl, ?_⟩ | refine Opt.a ?_ | fail)
    refine ⟨p, rfl, ⟨by omega, hp1⟩, ?_⟩
    repeat' (first | exact True.intro | refine ⟨_, LeL.refl _, ?_⟩ | refine ⟨_, _, _, LeL.refl _, ?_⟩ | (refine fun (b : Bool) hb => ?_; cases b <;> (first | exact absurd hb (by decide) | exact Bool.noConfusion (show true = false from hb) | exact Bool.noConfusion (show false = true from hb) | skip)) | (refine fun (hl : _ ≤ MAXL) => ?_) | refine And.intro (a := I64 _) ?_ ?_ | refine And.intro (a := _ ≤ 140737488355328) ?_ ?_ | refine ⟨_, ⟨rfl, rfl⟩, ?_⟩ | refine ⟨_, And.intro (a := I64 _) ?_ ⟨rfl, rfl⟩, ?_⟩ | refine ⟨_, _, ⟨rfl, rfl⟩, ?_⟩ | refine ⟨_, (fun _ => ⟨rfl, rfl⟩), ?_⟩ | refine And.intro (a := chkPend _ _ _ _ _ _) ?_ ?_ | refine And.intro (a := chkPast _ _ _ _ _ _ _ _) ?_ ?_ | refine ⟨⟨rfl, rfl⟩, ?_⟩ | refine And.intro (And.intro rfl rfl) ?_ | refine ⟨True.intro, ?_⟩ | refine ⟨_, ⟨_, rfl, ?_, rfl, rfl, rfl⟩, ?_⟩ | refine ⟨_, rfl, ?_, rfl, ?_⟩ | refine ⟨_, (fun _ => rfl), rfl, ?_⟩ | refine ⟨(fun _ => rfl), ?_⟩ | refine ⟨rfl, ?_⟩ | refine Opt.a ?_ | fail)
    exact hK _ rfl
end Gv
namespace Gv
variable [Glob] [Laid] [Nums] [Errs]
theorem makeG_ca : callable Tryz.prog 136 = true := by kernel_rfl
def makeG_S : Spec := fun args K => ∃ (n : Gp.Node) (f : List FileS) (ins : List Bs), args = [nodeV n, .sl fileV f, .sl blV ins] ∧ (checkN n = 0 ∧ n.ins.length = ins.length ∧ ins.flatten.length ≤ 500000 ∧ ∀ x ∈ f, x.b.length ≤ 4000) ∧ K (.sl blV (makeN n f ins))
noncomputable def makeG_lib : List (Nat × Spec) := [(129, bytesF_S), (123, linesL_S), (97, put_S), (191, splitLines_S), (98, linesC_S), (133, joinL_S)]
noncomputable def makeG_fns : List (Nat × FnI) := []
noncomputable def makeG_prims : List (Nat × PSpec) := []
theorem makeG_E : EnvOK ⟨Tryz.prog, tys, makeG_lib, makeG_fns, makeG_prims, []⟩ := env_ok mixed0 tys0 (.cons bytesF_ca bytesF_ok (.cons linesL_ca linesL_ok (.cons put_ca put_ok (.cons splitLines_ca splitLines_ok (.cons linesC_ca linesC_ok (.cons joinL_ca joinL_ok .nil)))))) .nil .nil rfl
set_option maxHeartbeats 8000000 in
theorem makeG_ok : Pure Tryz.prog 136 makeG_S := by
  refine pure_by makeG_E 6 (fi := {fn := Tryz.f136, hooks := [], draws := [(5, [0, 1, 3, 7, 0, 16, 63, 127]), (7, [0, 1, 0, 4, 12, 28, 63, 127, 255, 511])]}) ⟨Tryz.func136, by kernel_rfl, by kernel_rfl⟩ ?_
  rintro _ K ⟨n, f, ins, rfl, ⟨hn, hil, hfl, hf⟩, hK⟩
  replace hK : ∀ r, r = .sl blV (makeN n f ins) → K r := fun r h => h ▸ hK
  unfold makeN at hK
  have hshp := checkN_shape hn
  have hfa := fileAt_len hf n.file
  have hpf := put_lines (fileAt f n.file)
  have hb0 := getD_flat ins 0
  have hg0 : ∀ h : 0 < ins.length, ins.getD 0 [] = ins[0] := fun h => by rw [List.getD_eq_getElem?_getD, List.getElem?_eq_getElem h]; rfl
  have hp1 := put_lines (ins.getD 0 [])
  have hl1 := linesOf_len (ins.getD 0 [])
  have hel := linesOf_el (ins.getD 0 [])
  repeat' (first | exact True.intro | refine ⟨_, LeL.refl _, ?_⟩ | refine ⟨_, _, _, LeL.refl _, ?_⟩ | (refine fun (b : Bool) hb => ?_; cases b <;> (first | exact absurd hb (by decide) | exact Bool.noConfusion (show true = false from hb) | exact Bool.noConfusion (show false = true from hb) | skip)) | (refine fun (hl : _ ≤ MAXL) => ?_) | refine And.intro (a := I64 _) ?_ ?_ | refine And.intro (a := _ ≤ 140737488355328) ?_ ?_ | refine ⟨_, ⟨rfl, rfl⟩, ?_⟩ | refine ⟨_, And.intro (a := I64 _) ?_ ⟨rfl, rfl⟩, ?_⟩ | refine ⟨_, _, ⟨rfl, rfl⟩, ?_⟩ | refine ⟨_, (fun _ => ⟨rfl, rfl⟩), ?_⟩ | refine And.intro (a := chkPend _ _ _ _ _ _) ?_ ?_ | refine And.intro (a := chkPast _ _ _ _ _ _ _ _) ?_ ?_ | refine ⟨⟨rfl, rfl⟩, ?_⟩ | refine And.intro (And.intro rfl rfl) ?_ | refine ⟨True.intro, ?_⟩ | refine ⟨_, ⟨_, rfl, ?_, rfl, rfl, rfl⟩, ?_⟩ | refine ⟨_, rfl, ?_, rfl, ?_⟩ | refine ⟨_, (fun _ => rfl), rfl, ?_⟩ | refine ⟨(fun _ => rfl), ?_⟩ | refine ⟨rfl, ?_⟩ | refine Opt.a ?_ | fail)
  · have k1 : ¬ n.kind = 1 := of_decide_eq_false (by assumption)
    have k2 : ¬ n.kind = 2 := of_decide_eq_false (by assumption)
    have k3 : ¬ n.kind = 3 := of_decide_eq_false (by assumption)
    have k4 : ¬ n.kind = 4 := of_decide_eq_false (by assumption)
    rw [if_neg k1, if_neg k2, if_neg k3, if_neg k4] at hK
    conv => whnf
    exact ⟨Bs, blV, hK _ rfl⟩
  · have k4 : n.kind = 4 := of_decide_eq_true (by assumption)
    rw [if_neg (by omega), if_neg (by omega), if_neg (by omega), if_pos k4] at hK
    conv => whnf
    refine loop_live [3, 43, 44] (σ := Nat × List (List Bs)) (fun s => [(45, .int .i64 s.1), (7, .own 1)]) (fun s => [.box (nodeV n).cells, .row 1 (s.2.map lsV)]) (fun s => s.1 ≤ ins.length ∧ s.2 = (ins.take s.1).map linesOf) (fun s => ins.length - s.1) (0, []) ?_
    conv => whnf
    refine ⟨(by (refine wk_auto ?_; refine Sel4.mk rfl rfl ?_ ?_ <;> (repeat' (first | exact True.intro | exact rfl | exact Or.inl rfl | exact Or.inr rfl | refine And.intro ?_ ?_ | fail)))), ⟨Nat.zero_le _, by simp⟩, fun s hs => ?_⟩
    obtain ⟨i, ls⟩ := s
    obtain ⟨hi, hls⟩ := hs
    dsimp only at hi hls
    repeat' (first | exact True.intro | refine ⟨_, LeL.refl _, ?_⟩ | refine ⟨_, _, _, LeL.refl _, ?_⟩ | (refine fun (b : Bool) hb => ?_; cases b <;> (first | exact absurd hb (by decide) | exact Bool.noConfusion (show true = false from hb) | exact Bool.noConfusion (show false = true from hb) | skip)) | (refine fun (hl : _ ≤ MAXL) => ?_) | refine And.intro (a := I64 _) ?_ ?_ | refine And.intro (a := _ ≤ 140737488355328) ?_ ?_ | refine ⟨_, ⟨rfl, rfl⟩, ?_⟩ | refine ⟨_, And.intro (a := I64 _) ?_ ⟨rfl, rfl⟩, ?_⟩ | refine ⟨_, _, ⟨rfl, rfl⟩, ?_⟩ | refine ⟨_, (fun _ => ⟨rfl, rfl⟩), ?_⟩ | refine And.intro (a := chkPend _ _ _ _ _ _) ?_ ?_ | refine And.intro (a := chkPast _ _ _ _ _ _ _ _) ?_ ?_ | refine ⟨⟨rfl, rfl⟩, ?_⟩ | refine And.intro (And.intro rfl rfl) ?_ | refine ⟨True.intro, ?_⟩ | refine ⟨_, ⟨_, rfl, ?_, rfl, rfl, rfl⟩, ?_⟩ | refine ⟨_, rfl, ?_, rfl, ?_⟩ | refine ⟨_, (fun _ => rfl), rfl, ?_⟩ | refine ⟨(fun _ => rfl), ?_⟩ | refine ⟨rfl, ?_⟩ | refine Opt.a ?_ | fail)
    · have hge : ¬ (i : Int) < (ins.length : Int) := of_decide_eq_false (by assumption)
      rw [List.take_of_length_le (by omega)] at hls
      subst hls
      have hpf2 := put_flat ins
      have hpl := put_len (l := (ins.map linesOf).flatten) (n := 600000) (by omega)
      have hjc : checkJoin n.how n.c = 0 := by
        rcases hshp with h | h | h | h | h
        · omega
        · omega
        · omega
        · exact h.2.2.2
        · omega
      have hjp := joinB_put9 (checkJoin_four hjc).1 (ins.map linesOf) (by rw [List.length_map]; omega) (by omega)
      conv => whnf
      refine ⟨n.how, n.c, ins.map linesOf, rfl, ⟨(checkJoin_four hjc).1, by rw [List.length_map]; omega, by omega, fun l hl s hsl => ?_⟩, ?_⟩
      · have := put_el (List.mem_flatten.2 ⟨l, hl, hsl⟩)
        omega
      refine ⟨joinB n.how n.c (ins.map linesOf), rfl, by omega, ?_⟩
      conv => whnf
      refine ⟨Bs, blV, [put (joinB n.how n.c (ins.map linesOf))], LeL.refl _, ?_⟩
      exact hK _ rfl
    all_goals have hlt : i < ins.length := by (have h := of_decide_eq_true (by assumption : decide ((i : Int) < (ins.length : Int)) = true); omega)
    · exact hlt
    · have := el_flat (List.getElem_mem hlt)
      show ins[i].length ≤ 1000000
      omega
    · show ((ls.map lsV).length + 1) * 24 ≤ 140737488355328
      rw [List.length_map, hls, List.length_map, List.length_take]
      omega
    · unfold I64; (try dsimp only); omega
    refine ⟨(i + 1, ls ++ [linesOf ins[i]]), ?_, ⟨hlt, ?_⟩, by show ins.length - (i + 1) < ins.length - i; omega⟩
    · (refine wk_auto ?_; refine Sel4.mk rfl rfl ?_ ?_ <;> (repeat' (first | exact True.intro | exact rfl | exact Or.inl rfl | exact Or.inr rfl | refine And.intro ?_ ?_ | fail)))
      show Row.row 1 _ = Row.row 1 _
      rw [List.map_append]
      rfl
    · show ls ++ [linesOf ins[i]] = (ins.take (i + 1)).map linesOf
      rw [List.take_succ_eq_append_getElem hlt, List.map_append, hls]
      rfl
  · have k3 : n.kind = 3 := of_decide_eq_true (by assumption)
    show 0 < ins.length
    omega
  · have k3 : n.kind = 3 := of_decide_eq_true (by assumption)
    have h0 : 0 < ins.length := by omega
    have hc : checkCmd n.c = 0 := by
      rcases hshp with h | h | h | h | h
      · omega
      · omega
      · exact h.2.2
      · omega
      · omega
    rw [if_neg (by omega), if_neg (by omega), if_pos k3] at hK
    rw [hg0 h0] at hb0 hp1 hl1 hel hK
    have hlp := linesC_put9 hc (linesOf ins[0]) (by omega)
    apply Exists.intro
    apply And.intro
    · refine ⟨ins[0], rfl, by omega, ?_⟩
      exact ⟨rfl, rfl⟩
    repeat' (first | exact True.intro | refine ⟨_, LeL.refl _, ?_⟩ | refine ⟨_, _, _, LeL.refl _, ?_⟩ | (refine fun (b : Bool) hb => ?_; cases b <;> (first | exact absurd hb (by decide) | exact Bool.noConfusion (show true = false from hb) | exact Bool.noConfusion (show false = true from hb) | skip)) | (refine fun (hl : _ ≤ MAXL) => ?_) | refine And.intro (a := I64 _) ?_ ?_ | refine And.intro (a := _ ≤ 140737488355328) ?_ ?_ | refine ⟨_, ⟨rfl, rfl⟩, ?_⟩ | refine ⟨_, And.intro (a := I64 _) ?_ ⟨rfl, rfl⟩, ?_⟩ | refine ⟨_, _, ⟨rfl, rfl⟩, ?_⟩ | refine ⟨_, (fun _ => ⟨rfl, rfl⟩), ?_⟩ | refine And.intro (a := chkPend _ _ _ _ _ _) ?_ ?_ | refine And.intro (a := chkPast _ _ _ _ _ _ _ _) ?_ ?_ | refine ⟨⟨rfl, rfl⟩, ?_⟩ | refine And.intro (And.intro rfl rfl) ?_ | refine ⟨True.intro, ?_⟩ | refine ⟨_, ⟨_, rfl, ?_, rfl, rfl, rfl⟩, ?_⟩ | refine ⟨_, rfl, ?_, rfl, ?_⟩ | refine ⟨_, (fun _ => rfl), rfl, ?_⟩ | refine ⟨(fun _ => rfl), ?_⟩ | refine ⟨rfl, ?_⟩ | refine Opt.a ?_ | fail)
    apply Exists.intro
    apply And.intro
    · refine ⟨n.c, linesOf ins[0], rfl, ⟨hc, by omega, fun s hs => by have := hel s hs; omega⟩, ?_⟩
      exact ⟨rfl, rfl⟩
    repeat' (first | exact True.intro | refine ⟨_, LeL.refl _, ?_⟩ | refine ⟨_, _, _, LeL.refl _, ?_⟩ | (refine fun (b : Bool) hb => ?_; cases b <;> (first | exact absurd hb (by decide) | exact Bool.noConfusion (show true = false from hb) | exact Bool.noConfusion (show false = true from hb) | skip)) | (refine fun (hl : _ ≤ MAXL) => ?_) | refine And.intro (a := I64 _) ?_ ?_ | refine And.intro (a := _ ≤ 140737488355328) ?_ ?_ | refine ⟨_, ⟨rfl, rfl⟩, ?_⟩ | refine ⟨_, And.intro (a := I64 _) ?_ ⟨rfl, rfl⟩, ?_⟩ | refine ⟨_, _, ⟨rfl, rfl⟩, ?_⟩ | refine ⟨_, (fun _ => ⟨rfl, rfl⟩), ?_⟩ | refine And.intro (a := chkPend _ _ _ _ _ _) ?_ ?_ | refine And.intro (a := chkPast _ _ _ _ _ _ _ _) ?_ ?_ | refine ⟨⟨rfl, rfl⟩, ?_⟩ | refine And.intro (And.intro rfl rfl) ?_ | refine ⟨True.intro, ?_⟩ | refine ⟨_, ⟨_, rfl, ?_, rfl, rfl, rfl⟩, ?_⟩ | refine ⟨_, rfl, ?_, rfl, ?_⟩ | refine ⟨_, (fun _ => rfl), rfl, ?_⟩ | refine ⟨(fun _ => rfl), ?_⟩ | refine ⟨rfl, ?_⟩ | refine Opt.a ?_ | fail)
    apply Exists.intro
    apply And.intro
    · refine ⟨linesC n.c (linesOf ins[0]), rfl, by omega, ?_⟩
      exact ⟨rfl, rfl⟩
    repeat' (first | exact True.intro | refine ⟨_, LeL.refl _, ?_⟩ | refine ⟨_, _, _, LeL.refl _, ?_⟩ | (refine fun (b : Bool) hb => ?_; cases b <;> (first | exact absurd hb (by decide) | exact Bool.noConfusion (show true = false from hb) | exact Bool.noConfusion (show false = true from hb) | skip)) | (refine fun (hl : _ ≤ MAXL) => ?_) | refine And.intro (a := I64 _) ?_ ?_ | refine And.intro (a := _ ≤ 140737488355328) ?_ ?_ | refine ⟨_, ⟨rfl, rfl⟩, ?_⟩ | refine ⟨_, And.intro (a := I64 _) ?_ ⟨rfl, rfl⟩, ?_⟩ | refine ⟨_, _, ⟨rfl, rfl⟩, ?_⟩ | refine ⟨_, (fun _ => ⟨rfl, rfl⟩), ?_⟩ | refine And.intro (a := chkPend _ _ _ _ _ _) ?_ ?_ | refine And.intro (a := chkPast _ _ _ _ _ _ _ _) ?_ ?_ | refine ⟨⟨rfl, rfl⟩, ?_⟩ | refine And.intro (And.intro rfl rfl) ?_ | refine ⟨True.intro, ?_⟩ | refine ⟨_, ⟨_, rfl, ?_, rfl, rfl, rfl⟩, ?_⟩ | refine ⟨_, rfl, ?_, rfl, ?_⟩ | refine ⟨_, (fun _ => rfl), rfl, ?_⟩ | refine ⟨(fun _ => rfl), ?_⟩ | refine ⟨rfl, ?_⟩ | refine Opt.a ?_ | fail)
    refine ⟨_, ⟨Bs, blV, [put (linesC n.c (linesOf ins[0]))], LeL.refl _, rfl, rfl⟩, ?_⟩
    repeat' (first | exact True.intro | refine ⟨_, LeL.refl _, ?_⟩ | refine ⟨_, _, _, LeL.refl _, ?_⟩ | (refine fun (b : Bool) hb => ?_; cases b <;> (first | exact absurd hb (by decide) | exact Bool.noConfusion (show true = false from hb) | exact Bool.noConfusion (show false = true from hb) | skip)) | (refine fun (hl : _ ≤ MAXL) => ?_) | refine And.intro (a := I64 _) ?_ ?_ | refine And.intro (a := _ ≤ 140737488355328) ?_ ?_ | refine ⟨_, ⟨rfl, rfl⟩, ?_⟩ | refine ⟨_, And.intro (a := I64 _) ?_ ⟨rfl, rfl⟩, ?_⟩ | refine ⟨_, _, ⟨rfl, rfl⟩, ?_⟩ | refine ⟨_, (fun _ => ⟨rfl, rfl⟩), ?_⟩ | refine And.intro (a := chkPend _ _ _ _ _ _) ?_ ?_ | refine And.intro (a := chkPast _ _ _ _ _ _ _ _) ?_ ?_ | refine ⟨⟨rfl, rfl⟩, ?_⟩ | refine And.intro (And.intro rfl rfl) ?_ | refine ⟨True.intro, ?_⟩ | refine ⟨_, ⟨_, rfl, ?_, rfl, rfl, rfl⟩, ?_⟩ | refine ⟨_, rfl, ?_, rfl, ?_⟩ | refine ⟨_, (fun _ => rfl), rfl, ?_⟩ | refine ⟨(fun _ => rfl), ?_⟩ | refine ⟨rfl, ?_⟩ | refine Opt.a ?_ | fail)
    conv => whnf
    exact hK _ rfl
  · have k2 : n.kind = 2 := of_decide_eq_true (by assumption)
    show 0 < ins.length
    omega
  · have k2 : n.kind = 2 := of_decide_eq_true (by assumption)
    have h0 : 0 < ins.length := by omega
    obtain ⟨w, hw⟩ : ∃ w : Nat, n.wide = w := ⟨n.wide.toNat, by omega⟩
    rw [if_neg (by omega), if_pos k2] at hK
    rw [hg0 h0] at hb0 hp1 hl1 hel hK
    rw [hw, Int.toNat_natCast] at hK
    apply Exists.intro
    apply And.intro
    · refine ⟨ins[0], rfl, by omega, ?_⟩
      exact ⟨rfl, rfl⟩
    repeat' (first | exact True.intro | refine ⟨_, LeL.refl _, ?_⟩ | refine ⟨_, _, _, LeL.refl _, ?_⟩ | (refine fun (b : Bool) hb => ?_; cases b <;> (first | exact absurd hb (by decide) | exact Bool.noConfusion (show true = false from hb) | exact Bool.noConfusion (show false = true from hb) | skip)) | (refine fun (hl : _ ≤ MAXL) => ?_) | refine And.intro (a := I64 _) ?_ ?_ | refine And.intro (a := _ ≤ 140737488355328) ?_ ?_ | refine ⟨_, ⟨rfl, rfl⟩, ?_⟩ | refine ⟨_, And.intro (a := I64 _) ?_ ⟨rfl, rfl⟩, ?_⟩ | refine ⟨_, _, ⟨rfl, rfl⟩, ?_⟩ | refine ⟨_, (fun _ => ⟨rfl, rfl⟩), ?_⟩ | refine And.intro (a := chkPend _ _ _ _ _ _) ?_ ?_ | refine And.intro (a := chkPast _ _ _ _ _ _ _ _) ?_ ?_ | refine ⟨⟨rfl, rfl⟩, ?_⟩ | refine And.intro (And.intro rfl rfl) ?_ | refine ⟨True.intro, ?_⟩ | refine ⟨_, ⟨_, rfl, ?_, rfl, rfl, rfl⟩, ?_⟩ | refine ⟨_, rfl, ?_, rfl, ?_⟩ | refine ⟨_, (fun _ => rfl), rfl, ?_⟩ | refine ⟨(fun _ => rfl), ?_⟩ | refine ⟨rfl, ?_⟩ | refine Opt.a ?_ | fail)
    apply Exists.intro
    apply And.intro
    · refine ⟨linesOf ins[0], w, by rw [hw], ⟨by omega, by omega, by omega⟩, ?_⟩
      exact ⟨rfl, rfl⟩
    repeat' (first | exact True.intro | refine ⟨_, LeL.refl _, ?_⟩ | refine ⟨_, _, _, LeL.refl _, ?_⟩ | (refine fun (b : Bool) hb => ?_; cases b <;> (first | exact absurd hb (by decide) | exact Bool.noConfusion (show true = false from hb) | exact Bool.noConfusion (show false = true from hb) | skip)) | (refine fun (hl : _ ≤ MAXL) => ?_) | refine And.intro (a := I64 _) ?_ ?_ | refine And.intro (a := _ ≤ 140737488355328) ?_ ?_ | refine ⟨_, ⟨rfl, rfl⟩, ?_⟩ | refine ⟨_, And.intro (a := I64 _) ?_ ⟨rfl, rfl⟩, ?_⟩ | refine ⟨_, _, ⟨rfl, rfl⟩, ?_⟩ | refine ⟨_, (fun _ => ⟨rfl, rfl⟩), ?_⟩ | refine And.intro (a := chkPend _ _ _ _ _ _) ?_ ?_ | refine And.intro (a := chkPast _ _ _ _ _ _ _ _) ?_ ?_ | refine ⟨⟨rfl, rfl⟩, ?_⟩ | refine And.intro (And.intro rfl rfl) ?_ | refine ⟨True.intro, ?_⟩ | refine ⟨_, ⟨_, rfl, ?_, rfl, rfl, rfl⟩, ?_⟩ | refine ⟨_, rfl, ?_, rfl, ?_⟩ | refine ⟨_, (fun _ => rfl), rfl, ?_⟩ | refine ⟨(fun _ => rfl), ?_⟩ | refine ⟨rfl, ?_⟩ | refine Opt.a ?_ | fail)
    conv => whnf
    exact hK _ rfl
  · have k1 : n.kind = 1 := of_decide_eq_true (by assumption)
    rw [if_pos k1] at hK
    conv => whnf
    refine ⟨f, n.file, rfl, fun x hx => by have := hf x hx; omega, ?_⟩
    refine ⟨fileAt f n.file, rfl, by omega, ?_⟩
    refine ⟨linesOf (fileAt f n.file), rfl, by omega, ?_⟩
    repeat' (first | exact True.intro | refine ⟨_, LeL.refl _, ?_⟩ | refine ⟨_, _, _, LeL.refl _, ?_⟩ | (refine fun (b : Bool) hb => ?_; cases b <;> (first | exact absurd hb (by decide) | exact Bool.noConfusion (show true = false from hb) | exact Bool.noConfusion (show false = true from hb) | skip)) | (refine fun (hl : _ ≤ MAXL) => ?_) | refine And.intro (a := I64 _) ?_ ?_ | refine And.intro (a := _ ≤ 140737488355328) ?_ ?_ | refine ⟨_, ⟨rfl, rfl⟩, ?_⟩ | refine ⟨_, And.intro (a := I64 _) ?_ ⟨rfl, rfl⟩, ?_⟩ | refine ⟨_, _, ⟨rfl, rfl⟩, ?_⟩ | refine ⟨_, (fun _ => ⟨rfl, rfl⟩), ?_⟩ | refine And.intro (a := chkPend _ _ _ _ _ _) ?_ ?_ | refine And.intro (a := chkPast _ _ _ _ _ _ _ _) ?_ ?_ | refine ⟨⟨rfl, rfl⟩, ?_⟩ | refine And.intro (And.intro rfl rfl) ?_ | refine ⟨True.intro, ?_⟩ | refine ⟨_, ⟨_, rfl, ?_, rfl, rfl, rfl⟩, ?_⟩ | refine ⟨_, rfl, ?_, rfl, ?_⟩ | refine ⟨_, (fun _ => rfl), rfl, ?_⟩ | refine ⟨(fun _ => rfl), ?_⟩ | refine ⟨rfl, ?_⟩ | refine Opt.a ?_ | fail)
    conv => whnf
    refine ⟨Bs, blV, [put (linesOf (fileAt f n.file))], LeL.refl _, ?_⟩
    exact hK _ rfl
end Gv
