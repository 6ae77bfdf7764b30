/- What functions of the program come to (L3): in every world; the conditions stand in each theorem. -/
import Derived.Test.YtffljdmmambdjaaL2
set_option linter.unusedVariables false
set_option linter.unusedSectionVars false
set_option linter.unusedSimpArgs false
open Go Go.Proofs Gw
namespace Gv
variable [Glob]
noncomputable def lib3 : List (Nat × Spec) := [(14, check_S), (30, cloneB_S), (16, concatB_S)]
noncomputable def fns3 : List (Nat × FnI) := [(31, {fn := Try.f31, hooks := [], draws := [(5, [0, 0, 2, 6, 14, 0, 32, 96, 224, 480, 1022, 2047, 4095]), (7, [0, 0, 2, 6, 14, 0, 0, 96, 254, 510, 1023, 2047, 4095])]})]
theorem lib3_ok : LibOK Try.prog lib3 := .cons check_ca check_ok (.cons cloneB_ca cloneB_ok (.cons concatB_ca concatB_ok .nil))
theorem E3ok : EnvOK ⟨Try.prog, tys, lib3, fns3, [], []⟩ := env_ok mixed0 tys0 lib3_ok (.cons (by kernel_rfl) ⟨Try.func31, by kernel_rfl, by kernel_rfl⟩ .nil) .nil rfl
def noPipe : PipeS := ⟨[], 0, false, false⟩
def pipeTake (p : PipeS) (n : Nat) : Int := min (if 0 < p.room then min (n : Int) (p.room - p.b.length) else n) (40000 - p.b.length)
def pipeWrite (p : PipeS) (b : List UInt8) : PipeS × Int × Int :=
  if pipeCheck p ≠ 0 then (noPipe, 0, pipeCheck p) else if p.closed = true then (noPipe, 0, 7) else if p.shut = true then (p, b.length, 0) else
    ({p with b := p.b ++ b.take (pipeTake p b.length).toNat}, pipeTake p b.length, 0)
theorem pipe_small {p : PipeS} (h : pipeCheck p = 0) : p.b.length ≤ 40000 ∧ 0 ≤ p.room ∧ p.room ≤ 1000 ∧ (0 < p.room → p.b.length ≤ p.room) := by
  unfold pipeCheck at h
  grind
theorem write_ca : callable Try.prog 12 = true := by kernel_rfl
def write_S : Spec := fun args K => ∃ p b, args = [pipeV p, .sl byteV b] ∧ b.length ≤ 900000 ∧ K (.tup [pipeV (pipeWrite p b).1, .int .i64 (pipeWrite p b).2.1, .int .i64 (pipeWrite p b).2.2])
theorem write_ok : Pure Try.prog 12 write_S := by
  refine pure_by E3ok 1 (fi := {fn := Try.f12, hooks := [], draws := []}) ⟨Try.func12, by kernel_rfl, by kernel_rfl⟩ ?_
  rintro _ K ⟨p, b, rfl, hb0, hK⟩
  replace hK : ∀ r, r = .tup [pipeV (pipeWrite p b).1, .int .i64 (pipeWrite p b).2.1, .int .i64 (pipeWrite p b).2.2] → K r := fun r h => h ▸ hK
  refine ⟨p, rfl, ?_⟩
  repeat' (first | exact True.intro | refine ⟨_, LeL.refl _, ?_⟩ | refine ⟨_, _, _, LeL.refl _, ?_⟩ | (refine fun (b : Bool) hb => ?_; cases b <;> (first | exact absurd hb (by decide) | exact Bool.noConfusion (show true = false from hb) | exact Bool.noConfusion (show false = true from hb) | skip)) | (refine fun (hl : _ ≤ MAXL) => ?_) | refine And.intro (a := I64 _) ?_ ?_ | refine And.intro (a := _ ≤ 140737488355328) ?_ ?_ | refine ⟨_, ⟨rfl, rfl⟩, ?_⟩ | refine ⟨_, And.intro (a := I64 _) ?_ ⟨rfl, rfl⟩, ?_⟩ | refine ⟨_, _, ⟨rfl, rfl⟩, ?_⟩ | refine ⟨_, (fun _ => ⟨rfl, rfl⟩), ?_⟩ | refine And.intro (a := chkPend _ _ _ _ _ _) ?_ ?_ | refine And.intro (a := chkPast _ _ _ _ _ _ _ _) ?_ ?_ | refine ⟨⟨rfl, rfl⟩, ?_⟩ | refine ⟨True.intro, ?_⟩ | refine ⟨_, ⟨_, rfl, ?_, rfl, rfl, rfl⟩, ?_⟩ | refine ⟨_, rfl, ?_, rfl, ?_⟩ | refine ⟨_, (fun _ => rfl), rfl, ?_⟩ | refine ⟨(fun _ => rfl), ?_⟩ | refine ⟨rfl, ?_⟩ | refine ⟨UInt8, byteV, ?_⟩ | fail)
  · have hc : pipeCheck p = 0 := by grind
    have hs := pipe_small hc
    refine ⟨p.b, rfl, by omega, ?_⟩
    have hn0 : 0 ≤ pipeTake p b.length := by unfold pipeTake; grind
    have hn1 : pipeTake p b.length ≤ b.length := by unfold pipeTake; grind
    repeat' (first | exact True.intro | refine ⟨_, LeL.refl _, ?_⟩ | refine ⟨_, _, _, LeL.refl _, ?_⟩ | (refine fun (b : Bool) hb => ?_; cases b <;> (first | exact absurd hb (by decide) | exact Bool.noConfusion (show true = false from hb) | exact Bool.noConfusion (show false = true from hb) | skip)) | (refine fun (hl : _ ≤ MAXL) => ?_) | refine And.intro (a := I64 _) ?_ ?_ | refine And.intro (a := _ ≤ 140737488355328) ?_ ?_ | refine ⟨_, ⟨rfl, rfl⟩, ?_⟩ | refine ⟨_, And.intro (a := I64 _) ?_ ⟨rfl, rfl⟩, ?_⟩ | refine ⟨_, _, ⟨rfl, rfl⟩, ?_⟩ | refine ⟨_, (fun _ => ⟨rfl, rfl⟩), ?_⟩ | refine And.intro (a := chkPend _ _ _ _ _ _) ?_ ?_ | refine And.intro (a := chkPast _ _ _ _ _ _ _ _) ?_ ?_ | refine ⟨⟨rfl, rfl⟩, ?_⟩ | refine ⟨True.intro, ?_⟩ | refine ⟨_, ⟨_, rfl, ?_, rfl, rfl, rfl⟩, ?_⟩ | refine ⟨_, rfl, ?_, rfl, ?_⟩ | refine ⟨_, (fun _ => rfl), rfl, ?_⟩ | refine ⟨(fun _ => rfl), ?_⟩ | refine ⟨rfl, ?_⟩ | fail)
    any_goals (unfold I64; omega)
    iterate 2
      rotate_left
      refine ⟨_, ⟨fun _ => rfl, (pipeTake p b.length).toNat, ?_, ?_, rfl, rfl⟩, ?_⟩
      · grind [pipeTake]
      · omega
      repeat' (first | exact True.intro | refine ⟨_, LeL.refl _, ?_⟩ | refine ⟨_, _, _, LeL.refl _, ?_⟩ | (refine fun (b : Bool) hb => ?_; cases b <;> (first | exact absurd hb (by decide) | exact Bool.noConfusion (show true = false from hb) | exact Bool.noConfusion (show false = true from hb) | skip)) | (refine fun (hl : _ ≤ MAXL) => ?_) | refine And.intro (a := I64 _) ?_ ?_ | refine And.intro (a := _ ≤ 140737488355328) ?_ ?_ | refine ⟨_, ⟨rfl, rfl⟩, ?_⟩ | refine ⟨_, And.intro (a := I64 _) ?_ ⟨rfl, rfl⟩, ?_⟩ | refine ⟨_, _, ⟨rfl, rfl⟩, ?_⟩ | refine ⟨_, (fun _ => ⟨rfl, rfl⟩), ?_⟩ | refine And.intro (a := chkPend _ _ _ _ _ _) ?_ ?_ | refine And.intro (a := chkPast _ _ _ _ _ _ _ _) ?_ ?_ | refine ⟨⟨rfl, rfl⟩, ?_⟩ | refine ⟨True.intro, ?_⟩ | refine ⟨_, ⟨_, rfl, ?_, rfl, rfl, rfl⟩, ?_⟩ | refine ⟨_, rfl, ?_, rfl, ?_⟩ | refine ⟨_, (fun _ => rfl), rfl, ?_⟩ | refine ⟨(fun _ => rfl), ?_⟩ | refine ⟨rfl, ?_⟩ | fail)
      refine ⟨_, ⟨List UInt8, blV, [p.b, b.take (pipeTake p b.length).toNat], LeL.refl _, rfl, rfl⟩, ?_⟩
      refine ⟨_, ⟨[p.b, b.take (pipeTake p b.length).toNat], rfl, ?_, rfl, rfl⟩, ?_⟩
      · simp
        omega
      repeat' (first | exact True.intro | refine ⟨_, LeL.refl _, ?_⟩ | refine ⟨_, _, _, LeL.refl _, ?_⟩ | (refine fun (b : Bool) hb => ?_; cases b <;> (first | exact absurd hb (by decide) | exact Bool.noConfusion (show true = false from hb) | exact Bool.noConfusion (show false = true from hb) | skip)) | (refine fun (hl : _ ≤ MAXL) => ?_) | refine And.intro (a := I64 _) ?_ ?_ | refine And.intro (a := _ ≤ 140737488355328) ?_ ?_ | refine ⟨_, ⟨rfl, rfl⟩, ?_⟩ | refine ⟨_, And.intro (a := I64 _) ?_ ⟨rfl, rfl⟩, ?_⟩ | refine ⟨_, _, ⟨rfl, rfl⟩, ?_⟩ | refine ⟨_, (fun _ => ⟨rfl, rfl⟩), ?_⟩ | refine And.intro (a := chkPend _ _ _ _ _ _) ?_ ?_ | refine And.intro (a := chkPast _ _ _ _ _ _ _ _) ?_ ?_ | refine ⟨⟨rfl, rfl⟩, ?_⟩ | refine ⟨True.intro, ?_⟩ | refine ⟨_, ⟨_, rfl, ?_, rfl, rfl, rfl⟩, ?_⟩ | refine ⟨_, rfl, ?_, rfl, ?_⟩ | refine ⟨_, (fun _ => rfl), rfl, ?_⟩ | refine ⟨(fun _ => rfl), ?_⟩ | refine ⟨rfl, ?_⟩ | fail)
      · refine hK _ ?_
        have e : pipeWrite p b = (⟨p.b ++ b.take (pipeTake p b.length).toNat, p.room, p.closed, p.shut⟩, pipeTake p b.length, 0) := by unfold pipeWrite; grind
        rw [e]
        simp only [pipeV, List.flatten_cons, List.flatten_nil, List.append_nil]
        congr 3
        grind [pipeTake]
    · refine hK _ ?_
      grind [pipeWrite, pipeV]
  all_goals (refine hK _ ?_; grind [pipeWrite, noPipe, pipeV])
/-! read -/
def pipeRead (p : PipeS) (most : Int) : PipeS × List UInt8 × Int :=
  if pipeCheck p ≠ 0 then (noPipe, [], pipeCheck p) else if most < 0 ∨ 4000 < most then (noPipe, [], 3) else
    ({p with b := p.b.drop (min most p.b.length).toNat}, p.b.take (min most p.b.length).toNat, 0)
theorem read_ca : callable Try.prog 13 = true := by kernel_rfl
def read_S : Spec := fun args K => ∃ p n, args = [pipeV p, .int .i64 n] ∧ K (.tup [pipeV (pipeRead p n).1, .sl byteV (pipeRead p n).2.1, .int .i64 (pipeRead p n).2.2])
theorem read_ok : Pure Try.prog 13 read_S := by
  refine pure_by E3ok 1 (fi := {fn := Try.f13, hooks := [], draws := []}) ⟨Try.func13, by kernel_rfl, by kernel_rfl⟩ ?_
  rintro _ K ⟨p, n, rfl, hK⟩
  replace hK : ∀ r, r = .tup [pipeV (pipeRead p n).1, .sl byteV (pipeRead p n).2.1, .int .i64 (pipeRead p n).2.2] → K r := fun r h => h ▸ hK
  refine ⟨p, rfl, ?_⟩
  repeat' (first | exact True.intro | refine ⟨_, LeL.refl _, ?_⟩ | refine ⟨_, _, _, LeL.refl _, ?_⟩ | (refine fun (b : Bool) hb => ?_; cases b <;> (first | exact absurd hb (by decide) | exact Bool.noConfusion (show true = false from hb) | exact Bool.noConfusion (show false = true from hb) | skip)) | (refine fun (hl : _ ≤ MAXL) => ?_) | refine And.intro (a := I64 _) ?_ ?_ | refine And.intro (a := _ ≤ 140737488355328) ?_ ?_ | refine ⟨_, ⟨rfl, rfl⟩, ?_⟩ | refine ⟨_, And.intro (a := I64 _) ?_ ⟨rfl, rfl⟩, ?_⟩ | refine ⟨_, _, ⟨rfl, rfl⟩, ?_⟩ | refine ⟨_, (fun _ => ⟨rfl, rfl⟩), ?_⟩ | refine And.intro (a := chkPend _ _ _ _ _ _) ?_ ?_ | refine And.intro (a := chkPast _ _ _ _ _ _ _ _) ?_ ?_ | refine ⟨⟨rfl, rfl⟩, ?_⟩ | refine ⟨True.intro, ?_⟩ | refine ⟨_, ⟨_, rfl, ?_, rfl, rfl, rfl⟩, ?_⟩ | refine ⟨_, rfl, ?_, rfl, ?_⟩ | refine ⟨_, (fun _ => rfl), rfl, ?_⟩ | refine ⟨(fun _ => rfl), ?_⟩ | refine ⟨rfl, ?_⟩ | refine ⟨UInt8, byteV, ?_⟩ | fail)
  · have hc : pipeCheck p = 0 := by grind
    have hs := pipe_small hc
    have hn : 0 ≤ n := by grind
    refine ⟨(min n p.b.length).toNat, by omega, by omega, ?_⟩
    refine ⟨_, rfl, by simp; omega, ?_⟩
    refine ⟨fun _ => rfl, ?_⟩
    refine ⟨(min n p.b.length).toNat, by omega, by omega, ?_⟩
    refine ⟨_, rfl, by simp; omega, ?_⟩
    refine hK _ ?_
    grind [pipeRead, pipeV]
  all_goals (refine hK _ ?_; grind [pipeRead, noPipe, pipeV])
/-! close and shut -/
def pipeClose (p : PipeS) : PipeS × Int := if pipeCheck p ≠ 0 then (noPipe, pipeCheck p) else if p.closed = true then (noPipe, 7) else ({p with closed := true}, 0)
theorem close_ca : callable Try.prog 17 = true := by kernel_rfl
def close_S : Spec := fun args K => ∃ p, args = [pipeV p] ∧ K (.tup [pipeV (pipeClose p).1, .int .i64 (pipeClose p).2])
theorem close_ok : Pure Try.prog 17 close_S := by
  refine pure_by E3ok 1 (fi := {fn := Try.f17, hooks := [], draws := []}) ⟨Try.func17, by kernel_rfl, by kernel_rfl⟩ ?_
  rintro _ K ⟨p, rfl, hK⟩
  replace hK : ∀ r, r = .tup [pipeV (pipeClose p).1, .int .i64 (pipeClose p).2] → K r := fun r h => h ▸ hK
  refine ⟨p, rfl, ?_⟩
  repeat' (first | exact True.intro | refine ⟨_, LeL.refl _, ?_⟩ | refine ⟨_, _, _, LeL.refl _, ?_⟩ | (refine fun (b : Bool) hb => ?_; cases b <;> (first | exact absurd hb (by decide) | exact Bool.noConfusion (show true = false from hb) | exact Bool.noConfusion (show false = true from hb) | skip)) | (refine fun (hl : _ ≤ MAXL) => ?_) | refine And.intro (a := I64 _) ?_ ?_ | refine And.intro (a := _ ≤ 140737488355328) ?_ ?_ | refine ⟨_, ⟨rfl, rfl⟩, ?_⟩ | refine ⟨_, And.intro (a := I64 _) ?_ ⟨rfl, rfl⟩, ?_⟩ | refine ⟨_, _, ⟨rfl, rfl⟩, ?_⟩ | refine ⟨_, (fun _ => ⟨rfl, rfl⟩), ?_⟩ | refine And.intro (a := chkPend _ _ _ _ _ _) ?_ ?_ | refine And.intro (a := chkPast _ _ _ _ _ _ _ _) ?_ ?_ | refine ⟨⟨rfl, rfl⟩, ?_⟩ | refine ⟨True.intro, ?_⟩ | refine ⟨_, ⟨_, rfl, ?_, rfl, rfl, rfl⟩, ?_⟩ | refine ⟨_, rfl, ?_, rfl, ?_⟩ | refine ⟨_, (fun _ => rfl), rfl, ?_⟩ | refine ⟨(fun _ => rfl), ?_⟩ | refine ⟨rfl, ?_⟩ | refine ⟨UInt8, byteV, ?_⟩ | fail)
  · have hc : pipeCheck p = 0 := by grind
    have hs := pipe_small hc
    refine ⟨_, rfl, by omega, ?_⟩
    refine hK _ ?_
    grind [pipeClose, pipeV]
  all_goals (refine hK _ ?_; grind [pipeClose, noPipe, pipeV])
def pipeShut (p : PipeS) : PipeS × Int := if pipeCheck p ≠ 0 then (noPipe, pipeCheck p) else (⟨[], p.room, p.closed, true⟩, 0)
theorem shut_ca : callable Try.prog 18 = true := by kernel_rfl
def shut_S : Spec := fun args K => ∃ p, args = [pipeV p] ∧ K (.tup [pipeV (pipeShut p).1, .int .i64 (pipeShut p).2])
theorem shut_ok : Pure Try.prog 18 shut_S := by
  refine pure_by E3ok 1 (fi := {fn := Try.f18, hooks := [], draws := []}) ⟨Try.func18, by kernel_rfl, by kernel_rfl⟩ ?_
  rintro _ K ⟨p, rfl, hK⟩
  replace hK : ∀ r, r = .tup [pipeV (pipeShut p).1, .int .i64 (pipeShut p).2] → K r := fun r h => h ▸ hK
  refine ⟨p, rfl, ?_⟩
  repeat' (first | exact True.intro | refine ⟨_, LeL.refl _, ?_⟩ | refine ⟨_, _, _, LeL.refl _, ?_⟩ | (refine fun (b : Bool) hb => ?_; cases b <;> (first | exact absurd hb (by decide) | exact Bool.noConfusion (show true = false from hb) | exact Bool.noConfusion (show false = true from hb) | skip)) | (refine fun (hl : _ ≤ MAXL) => ?_) | refine And.intro (a := I64 _) ?_ ?_ | refine And.intro (a := _ ≤ 140737488355328) ?_ ?_ | refine ⟨_, ⟨rfl, rfl⟩, ?_⟩ | refine ⟨_, And.intro (a := I64 _) ?_ ⟨rfl, rfl⟩, ?_⟩ | refine ⟨_, _, ⟨rfl, rfl⟩, ?_⟩ | refine ⟨_, (fun _ => ⟨rfl, rfl⟩), ?_⟩ | refine And.intro (a := chkPend _ _ _ _ _ _) ?_ ?_ | refine And.intro (a := chkPast _ _ _ _ _ _ _ _) ?_ ?_ | refine ⟨⟨rfl, rfl⟩, ?_⟩ | refine ⟨True.intro, ?_⟩ | refine ⟨_, ⟨_, rfl, ?_, rfl, rfl, rfl⟩, ?_⟩ | refine ⟨_, rfl, ?_, rfl, ?_⟩ | refine ⟨_, (fun _ => rfl), rfl, ?_⟩ | refine ⟨(fun _ => rfl), ?_⟩ | refine ⟨rfl, ?_⟩ | refine ⟨UInt8, byteV, ?_⟩ | fail)
  all_goals (refine hK _ ?_; grind [pipeShut, noPipe, pipeV])
theorem over_ca : callable Try.prog 20 = true := by kernel_rfl
def pipeOver (p : PipeS) : Bool := p.closed && decide ((p.b.length : Int) = 0)
def over_S : Spec := fun args K => ∃ p, args = [pipeV p] ∧ K (.bool (pipeOver p))
theorem over_ok : Pure Try.prog 20 over_S := by
  refine pure_by E3ok 1 (fi := {fn := Try.f20, hooks := [], draws := []}) ⟨Try.func20, by kernel_rfl, by kernel_rfl⟩ ?_
  rintro _ K ⟨p, rfl, hK⟩
  replace hK : ∀ r, r = .bool (pipeOver p) → K r := fun r h => h ▸ hK
  repeat' (first | exact True.intro | refine ⟨_, LeL.refl _, ?_⟩ | refine ⟨_, _, _, LeL.refl _, ?_⟩ | (refine fun (b : Bool) hb => ?_; cases b <;> (first | exact absurd hb (by decide) | exact Bool.noConfusion (show true = false from hb) | exact Bool.noConfusion (show false = true from hb) | skip)) | (refine fun (hl : _ ≤ MAXL) => ?_) | refine And.intro (a := I64 _) ?_ ?_ | refine And.intro (a := _ ≤ 140737488355328) ?_ ?_ | refine ⟨_, ⟨rfl, rfl⟩, ?_⟩ | refine ⟨_, And.intro (a := I64 _) ?_ ⟨rfl, rfl⟩, ?_⟩ | refine ⟨_, _, ⟨rfl, rfl⟩, ?_⟩ | refine ⟨_, (fun _ => ⟨rfl, rfl⟩), ?_⟩ | refine And.intro (a := chkPend _ _ _ _ _ _) ?_ ?_ | refine And.intro (a := chkPast _ _ _ _ _ _ _ _) ?_ ?_ | refine ⟨⟨rfl, rfl⟩, ?_⟩ | refine ⟨True.intro, ?_⟩ | refine ⟨_, ⟨_, rfl, ?_, rfl, rfl, rfl⟩, ?_⟩ | refine ⟨_, rfl, ?_, rfl, ?_⟩ | refine ⟨_, (fun _ => rfl), rfl, ?_⟩ | refine ⟨(fun _ => rfl), ?_⟩ | refine ⟨rfl, ?_⟩ | fail)
  all_goals (refine hK _ ?_; grind [pipeOver])
end Gv
