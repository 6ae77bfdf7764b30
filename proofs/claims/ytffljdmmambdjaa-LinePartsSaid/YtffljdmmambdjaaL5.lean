/- What functions of the program come to (L5): in every world; the conditions stand in each theorem. -/
import Derived.Test.YtffljdmmambdjaaL4
set_option linter.unusedVariables false
set_option linter.unusedSectionVars false
set_option linter.unusedSimpArgs false
open Go Go.Proofs Gw
namespace Gv
variable [Glob]
/-! the law PipeKeeps -/
noncomputable def lib5 : List (Nat × Spec) := (10, piped_S) :: lib4
theorem E5ok : EnvOK ⟨Try.prog, tys, lib5, [], [], []⟩ := env_ok mixed0 tys0 (.cons piped_ca piped_ok lib4_ok) .nil .nil rfl
def intV (n : Int) : V := .int .i64 n
theorem at_bnd (k : Int) : 0 ≤ atI k 9 ∧ atI k 9 < 9 := by
  have e1 := Int.tmod_lt_of_pos k (b := 9) (by decide)
  have e2 := Int.lt_tmod_of_pos k (b := 9) (by decide)
  unfold atI
  grind
structure Kept (r : Int) (B : List UInt8) (p : PipeS) (sent : Nat) (got : List UInt8) : Prop where
  chk : pipeCheck p = 0
  room : p.room = r
  closed : p.closed = false
  shut : p.shut = false
  all : got ++ p.b = B.take sent
  le : sent ≤ B.length
theorem Kept.new {r : Int} {B : List UInt8} (h : (pipeNew r).2 = 0) : Kept r B (pipeNew r).1 0 [] := by
  unfold pipeNew at h ⊢
  split at h
  · cases h
  · rename_i hr
    simp only [hr, if_false]
    exact ⟨by unfold pipeCheck; simp; omega, rfl, rfl, rfl, by simp, Nat.zero_le _⟩
theorem Kept.write {r : Int} {B : List UInt8} {p : PipeS} {sent : Nat} {got : List UInt8} (h : Kept r B p sent got) (c : List UInt8) (hc : c = (B.drop sent).take c.length) :
    (pipeWrite p c).2.2 = 0 ∧ 0 ≤ (pipeWrite p c).2.1 ∧ (pipeWrite p c).2.1 ≤ c.length ∧ Kept r B (pipeWrite p c).1 (sent + (pipeWrite p c).2.1.toNat) got := by
  have hs := pipe_small h.chk
  have t0 : 0 ≤ pipeTake p c.length := by unfold pipeTake; grind
  have t1 : pipeTake p c.length ≤ c.length := by unfold pipeTake; grind
  have t2 : pipeTake p c.length ≤ 40000 - p.b.length := by unfold pipeTake; grind
  have t3 : 0 < p.room → pipeTake p c.length ≤ p.room - p.b.length := by unfold pipeTake; grind
  have e : pipeWrite p c = (⟨p.b ++ c.take (pipeTake p c.length).toNat, p.room, p.closed, p.shut⟩, pipeTake p c.length, 0) := by
    unfold pipeWrite
    simp [h.chk, h.closed, h.shut]
  have hl : c.length ≤ B.length - sent := by
    rw [hc]
    simp only [List.length_take, List.length_drop]
    omega
  have hle := h.le
  rw [e]
  generalize pipeTake p c.length = n at t0 t1 t2 t3
  refine ⟨rfl, t0, t1, ?_, h.room, h.closed, h.shut, ?_, ?_⟩
  · have := h.shut
    unfold pipeCheck
    simp only [List.length_append, List.length_take]
    grind
  · rw [← List.append_assoc, h.all, List.take_add]
    congr 1
    have : min n.toNat c.length = n.toNat := by omega
    rw [hc, List.take_take, this]
  · show sent + n.toNat ≤ B.length
    omega
theorem Kept.read {r : Int} {B : List UInt8} {p : PipeS} {sent : Nat} {got : List UInt8} (h : Kept r B p sent got) (n : Int) (h0 : 0 ≤ n) (h1 : n ≤ 4000) :
    (pipeRead p n).2.2 = 0 ∧ ((pipeRead p n).2.1.length : Int) ≤ n ∧ Kept r B (pipeRead p n).1 sent (got ++ (pipeRead p n).2.1) := by
  have hs := pipe_small h.chk
  have e : pipeRead p n = ({p with b := p.b.drop (min n p.b.length).toNat}, p.b.take (min n p.b.length).toNat, 0) := by
    unfold pipeRead
    simp only [h.chk]
    grind
  rw [e]
  refine ⟨rfl, by simp only [List.length_take]; omega, ?_, h.room, h.closed, h.shut, ?_, h.le⟩
  · have := h.shut
    unfold pipeCheck
    simp only [List.length_drop]
    grind
  · simp only [List.append_assoc, List.take_append_drop]
    exact h.all
theorem keeps_ca : callable Try.prog 4 = true := by kernel_rfl
def keeps_S : Spec := fun args K => ∃ (r : Int) (b : List UInt8) (s : List Int), args = [.int .i64 r, .sl byteV b, .sl intV s] ∧ (∀ x ∈ s, I64 x) ∧ K (.bool true)
set_option maxHeartbeats 4000000 in
theorem keeps_ok : Pure Try.prog 4 keeps_S := by
  refine pure_by E5ok 1 (fi := {fn := Try.f4, hooks := [19, 100019], draws := [(11, [0, 0, 0, 0, 8, 0, 0, 96, 248, 510, 1023, 2047, 4095, 4095, 4095, 0, 40959, 114687, 262143]), (18, [0, 0, 0, 6, 15, 31]), (19, [0, 1, 3, 7, 15, 31, 63, 127, 255, 511, 127, 2047, 4095, 8191, 16383, 32767, 32767, 98303, 262143, 524287, 32767, 32767, 3178495, 8388607, 16777215, 33554431])]}) ⟨Try.func4, by kernel_rfl, by kernel_rfl⟩ ?_
  rintro _ K ⟨r, b, s, rfl, hs, hK⟩
  replace hK : ∀ r, r = .bool true → K r := fun r h => h ▸ hK
  refine ⟨r, rfl, ?_⟩
  refine ⟨rfl, ?_⟩
  repeat' (first | exact True.intro | refine ⟨_, LeL.refl _, ?_⟩ | refine ⟨_, _, _, LeL.refl _, ?_⟩ | (refine fun (b : Bool) hb => ?_; cases b <;> (first | exact absurd hb (by decide) | exact Bool.noConfusion (show true = false from hb) | exact Bool.noConfusion (show false = true from hb) | skip)) | (refine fun (hl : _ ≤ MAXL) => ?_) | refine And.intro (a := I64 _) ?_ ?_ | refine And.intro (a := _ ≤ 140737488355328) ?_ ?_ | refine ⟨_, ⟨rfl, rfl⟩, ?_⟩ | refine ⟨_, And.intro (a := I64 _) ?_ ⟨rfl, rfl⟩, ?_⟩ | refine ⟨_, _, ⟨rfl, rfl⟩, ?_⟩ | refine ⟨_, (fun _ => ⟨rfl, rfl⟩), ?_⟩ | refine And.intro (a := chkPend _ _ _ _ _ _) ?_ ?_ | refine And.intro (a := chkPast _ _ _ _ _ _ _ _) ?_ ?_ | refine ⟨⟨rfl, rfl⟩, ?_⟩ | refine ⟨True.intro, ?_⟩ | refine ⟨_, ⟨_, rfl, ?_, rfl, rfl, rfl⟩, ?_⟩ | refine ⟨_, rfl, ?_, rfl, ?_⟩ | refine ⟨_, (fun _ => rfl), rfl, ?_⟩ | refine ⟨(fun _ => rfl), ?_⟩ | refine ⟨rfl, ?_⟩ | fail)
  rotate_left
  · refine hK _ rfl
  have hr : (pipeNew r).2 = 0 := by grind
  refine ⟨min b.length 200, by omega, by omega, ?_⟩
  have hB1 : (b.take (min b.length 200)).length ≤ 200 := by simp; omega
  generalize b.take (min b.length 200) = B at hB1 ⊢
  repeat' (first | exact True.intro | refine ⟨_, LeL.refl _, ?_⟩ | refine ⟨_, _, _, LeL.refl _, ?_⟩ | (refine fun (b : Bool) hb => ?_; cases b <;> (first | exact absurd hb (by decide) | exact Bool.noConfusion (show true = false from hb) | exact Bool.noConfusion (show false = true from hb) | skip)) | (refine fun (hl : _ ≤ MAXL) => ?_) | refine And.intro (a := I64 _) ?_ ?_ | refine And.intro (a := _ ≤ 140737488355328) ?_ ?_ | refine ⟨_, ⟨rfl, rfl⟩, ?_⟩ | refine ⟨_, And.intro (a := I64 _) ?_ ⟨rfl, rfl⟩, ?_⟩ | refine ⟨_, _, ⟨rfl, rfl⟩, ?_⟩ | refine ⟨_, (fun _ => ⟨rfl, rfl⟩), ?_⟩ | refine And.intro (a := chkPend _ _ _ _ _ _) ?_ ?_ | refine And.intro (a := chkPast _ _ _ _ _ _ _ _) ?_ ?_ | refine ⟨⟨rfl, rfl⟩, ?_⟩ | refine ⟨True.intro, ?_⟩ | refine ⟨_, ⟨_, rfl, ?_, rfl, rfl, rfl⟩, ?_⟩ | refine ⟨_, rfl, ?_, rfl, ?_⟩ | refine ⟨_, (fun _ => rfl), rfl, ?_⟩ | refine ⟨(fun _ => rfl), ?_⟩ | refine ⟨rfl, ?_⟩ | fail)
  refine ⟨min s.length 60, by omega, by omega, ?_⟩
  have hS1 : (s.take (min s.length 60)).length ≤ 60 := by simp; omega
  have hS2 : ∀ x ∈ s.take (min s.length 60), I64 x := fun x h => hs x (List.mem_of_mem_take h)
  generalize s.take (min s.length 60) = S at hS1 hS2 ⊢
  repeat' (first | exact True.intro | refine ⟨_, LeL.refl _, ?_⟩ | refine ⟨_, _, _, LeL.refl _, ?_⟩ | (refine fun (b : Bool) hb => ?_; cases b <;> (first | exact absurd hb (by decide) | exact Bool.noConfusion (show true = false from hb) | exact Bool.noConfusion (show false = true from hb) | skip)) | (refine fun (hl : _ ≤ MAXL) => ?_) | refine And.intro (a := I64 _) ?_ ?_ | refine And.intro (a := _ ≤ 140737488355328) ?_ ?_ | refine ⟨_, ⟨rfl, rfl⟩, ?_⟩ | refine ⟨_, And.intro (a := I64 _) ?_ ⟨rfl, rfl⟩, ?_⟩ | refine ⟨_, _, ⟨rfl, rfl⟩, ?_⟩ | refine ⟨_, (fun _ => ⟨rfl, rfl⟩), ?_⟩ | refine And.intro (a := chkPend _ _ _ _ _ _) ?_ ?_ | refine And.intro (a := chkPast _ _ _ _ _ _ _ _) ?_ ?_ | refine ⟨⟨rfl, rfl⟩, ?_⟩ | refine ⟨True.intro, ?_⟩ | refine ⟨_, ⟨_, rfl, ?_, rfl, rfl, rfl⟩, ?_⟩ | refine ⟨_, rfl, ?_, rfl, ?_⟩ | refine ⟨_, (fun _ => rfl), rfl, ?_⟩ | refine ⟨(fun _ => rfl), ?_⟩ | refine ⟨rfl, ?_⟩ | fail)
  conv => whnf
  have k0 := Kept.new (B := B) hr
  generalize (pipeNew r).1 = p0 at k0 ⊢
  refine loop_intro (σ := Nat × PipeS × Nat × List UInt8) (fun s => [(0, .int .i64 r), (1, .sl byteV B), (6, .lit false), (7, .ptr 0 0 0), (9, .int .i64 s.2.2.1), (10, .own 1), (41, .sl intV S), (42, .int .i64 S.length), (43, .int .i64 s.1)])
    (fun s => [.box [.sl byteV s.2.1.b, .int .i64 s.2.1.room, .bool s.2.1.closed, .bool s.2.1.shut], .row 1 (s.2.2.2.map byteV)]) (fun s => s.1 ≤ S.length ∧ Kept r B s.2.1 s.2.2.1 s.2.2.2) (fun s => S.length - s.1) (0, p0, 0, []) ?_ ⟨Nat.zero_le _, k0⟩ ?_
  · refine wk_sel [some 0, none] rfl rfl ?_ ?_
    · (repeat' (first | exact True.intro | exact rfl | exact Or.inl rfl | exact Or.inr rfl | refine And.intro ?_ ?_ | fail))
    · (repeat' (first | exact True.intro | exact rfl | exact Or.inl rfl | exact Or.inr rfl | refine And.intro ?_ ?_ | fail))
  rintro ⟨i, p, sent, got⟩ ⟨hi, hk⟩
  replace hi : i ≤ S.length := hi
  replace hk : Kept r B p sent got := hk
  repeat' (first | exact True.intro | refine ⟨_, LeL.refl _, ?_⟩ | refine ⟨_, _, _, LeL.refl _, ?_⟩ | (refine fun (b : Bool) hb => ?_; cases b <;> (first | exact absurd hb (by decide) | exact Bool.noConfusion (show true = false from hb) | exact Bool.noConfusion (show false = true from hb) | skip)) | (refine fun (hl : _ ≤ MAXL) => ?_) | refine And.intro (a := I64 _) ?_ ?_ | refine And.intro (a := _ ≤ 140737488355328) ?_ ?_ | refine ⟨_, ⟨rfl, rfl⟩, ?_⟩ | refine ⟨_, And.intro (a := I64 _) ?_ ⟨rfl, rfl⟩, ?_⟩ | refine ⟨_, _, ⟨rfl, rfl⟩, ?_⟩ | refine ⟨_, (fun _ => ⟨rfl, rfl⟩), ?_⟩ | refine And.intro (a := chkPend _ _ _ _ _ _) ?_ ?_ | refine And.intro (a := chkPast _ _ _ _ _ _ _ _) ?_ ?_ | refine ⟨⟨rfl, rfl⟩, ?_⟩ | refine ⟨True.intro, ?_⟩ | refine ⟨_, ⟨_, rfl, ?_, rfl, rfl, rfl⟩, ?_⟩ | refine ⟨_, rfl, ?_, rfl, ?_⟩ | refine ⟨_, (fun _ => rfl), rfl, ?_⟩ | refine ⟨(fun _ => rfl), ?_⟩ | refine ⟨rfl, ?_⟩ | fail)
  · exact hK _ rfl
  · show i < S.length
    have hb : decide ((i : Int) < (S.length : Int)) = true := by assumption
    grind
  have hi2 : i < S.length := by
    have hb : decide ((i : Int) < (S.length : Int)) = true := by assumption
    grind
  have hl := hk.le
  have hs := pipe_small hk.chk
  refine ⟨_, 9, rfl, hS2 _ (List.getElem_mem _), by decide, by decide, ?_⟩
  have hn := at_bnd (S[i]'hi2)
  generalize atI (S[i]'hi2) 9 = n at hn ⊢
  conv => whnf
  refine join_intro (σ := PipeS × Nat × List UInt8) (fun s => [(0, .int .i64 r), (1, .sl byteV B), (6, .lit false), (7, .ptr 0 0 0), (9, .int .i64 s.2.1), (10, .own 1), (41, .sl intV S), (42, .int .i64 S.length), (43, .int .i64 i)])
    (fun s => [.box [.sl byteV s.1.b, .int .i64 s.1.room, .bool s.1.closed, .bool s.1.shut], .row 1 (s.2.2.map byteV)]) (fun s => Kept r B s.1 s.2.1 s.2.2) ?_ ?_
  · repeat' (first | exact True.intro | refine ⟨_, LeL.refl _, ?_⟩ | refine ⟨_, _, _, LeL.refl _, ?_⟩ | (refine fun (b : Bool) hb => ?_; cases b <;> (first | exact absurd hb (by decide) | exact Bool.noConfusion (show true = false from hb) | exact Bool.noConfusion (show false = true from hb) | skip)) | (refine fun (hl : _ ≤ MAXL) => ?_) | refine And.intro (a := I64 _) ?_ ?_ | refine And.intro (a := _ ≤ 140737488355328) ?_ ?_ | refine ⟨_, ⟨rfl, rfl⟩, ?_⟩ | refine ⟨_, And.intro (a := I64 _) ?_ ⟨rfl, rfl⟩, ?_⟩ | refine ⟨_, _, ⟨rfl, rfl⟩, ?_⟩ | refine ⟨_, (fun _ => ⟨rfl, rfl⟩), ?_⟩ | refine And.intro (a := chkPend _ _ _ _ _ _) ?_ ?_ | refine And.intro (a := chkPast _ _ _ _ _ _ _ _) ?_ ?_ | refine ⟨⟨rfl, rfl⟩, ?_⟩ | refine ⟨True.intro, ?_⟩ | refine ⟨_, ⟨_, rfl, ?_, rfl, rfl, rfl⟩, ?_⟩ | refine ⟨_, rfl, ?_, rfl, ?_⟩ | refine ⟨_, (fun _ => rfl), rfl, ?_⟩ | refine ⟨(fun _ => rfl), ?_⟩ | refine ⟨rfl, ?_⟩ | fail)
    refine ⟨by decide, ?_⟩
    repeat' (first | exact True.intro | refine ⟨_, LeL.refl _, ?_⟩ | refine ⟨_, _, _, LeL.refl _, ?_⟩ | (refine fun (b : Bool) hb => ?_; cases b <;> (first | exact absurd hb (by decide) | exact Bool.noConfusion (show true = false from hb) | exact Bool.noConfusion (show false = true from hb) | skip)) | (refine fun (hl : _ ≤ MAXL) => ?_) | refine And.intro (a := I64 _) ?_ ?_ | refine And.intro (a := _ ≤ 140737488355328) ?_ ?_ | refine ⟨_, ⟨rfl, rfl⟩, ?_⟩ | refine ⟨_, And.intro (a := I64 _) ?_ ⟨rfl, rfl⟩, ?_⟩ | refine ⟨_, _, ⟨rfl, rfl⟩, ?_⟩ | refine ⟨_, (fun _ => ⟨rfl, rfl⟩), ?_⟩ | refine And.intro (a := chkPend _ _ _ _ _ _) ?_ ?_ | refine And.intro (a := chkPast _ _ _ _ _ _ _ _) ?_ ?_ | refine ⟨⟨rfl, rfl⟩, ?_⟩ | refine ⟨True.intro, ?_⟩ | refine ⟨_, ⟨_, rfl, ?_, rfl, rfl, rfl⟩, ?_⟩ | refine ⟨_, rfl, ?_, rfl, ?_⟩ | refine ⟨_, (fun _ => rfl), rfl, ?_⟩ | refine ⟨(fun _ => rfl), ?_⟩ | refine ⟨rfl, ?_⟩ | fail)
    rotate_left
    · (unfold I64; (first | omega | (dsimp only at *; omega) | grind))
    · refine ⟨_, ⟨fun _ => rfl, sent, (min (B.length : Int) (sent + n)).toNat, rfl, ?_, ?_, ?_, rfl, rfl⟩, ?_⟩
      · dsimp only
        omega
      · omega
      · omega
      have hc : ((B.take (min (B.length : Int) (sent + n)).toNat).drop sent) = (B.drop sent).take ((B.take (min (B.length : Int) (sent + n)).toNat).drop sent).length := by
        rw [List.drop_take]
        simp only [List.length_take, List.length_drop]
        congr 1
        omega
      have hw := hk.write _ hc
      generalize (B.take (min (B.length : Int) (sent + n)).toNat).drop sent = c at hc hw ⊢
      have hcl : c.length ≤ B.length - sent := by
        rw [hc]
        simp only [List.length_take, List.length_drop]
        omega
      refine ⟨_, ⟨p, c, rfl, ?_, rfl, rfl⟩, ?_⟩
      · omega
      generalize pipeWrite p c = w at hw ⊢
      obtain ⟨w1, wn, we⟩ := w
      dsimp only at hw
      obtain ⟨hw1, hw2, hw3, hw4⟩ := hw
      obtain ⟨k, rfl⟩ : ∃ k : Nat, wn = k := ⟨wn.toNat, (Int.toNat_of_nonneg hw2).symm⟩
      rw [Int.toNat_natCast] at hw4
      have hw5 := hw4.le
      subst hw1
      repeat' (first | exact True.intro | refine ⟨_, LeL.refl _, ?_⟩ | refine ⟨_, _, _, LeL.refl _, ?_⟩ | (refine fun (b : Bool) hb => ?_; cases b <;> (first | exact absurd hb (by decide) | exact Bool.noConfusion (show true = false from hb) | exact Bool.noConfusion (show false = true from hb) | skip)) | (refine fun (hl : _ ≤ MAXL) => ?_) | refine And.intro (a := I64 _) ?_ ?_ | refine And.intro (a := _ ≤ 140737488355328) ?_ ?_ | refine ⟨_, ⟨rfl, rfl⟩, ?_⟩ | refine ⟨_, And.intro (a := I64 _) ?_ ⟨rfl, rfl⟩, ?_⟩ | refine ⟨_, _, ⟨rfl, rfl⟩, ?_⟩ | refine ⟨_, (fun _ => ⟨rfl, rfl⟩), ?_⟩ | refine And.intro (a := chkPend _ _ _ _ _ _) ?_ ?_ | refine And.intro (a := chkPast _ _ _ _ _ _ _ _) ?_ ?_ | refine ⟨⟨rfl, rfl⟩, ?_⟩ | refine ⟨True.intro, ?_⟩ | refine ⟨_, ⟨_, rfl, ?_, rfl, rfl, rfl⟩, ?_⟩ | refine ⟨_, rfl, ?_, rfl, ?_⟩ | refine ⟨_, (fun _ => rfl), rfl, ?_⟩ | refine ⟨(fun _ => rfl), ?_⟩ | refine ⟨rfl, ?_⟩ | fail)
      · (unfold I64; (first | omega | (dsimp only at *; omega) | grind))
      · (unfold I64; (first | omega | (dsimp only at *; omega) | grind))
      · refine ⟨(w1, sent + k, got), ?_, hw4⟩
        refine wk_sel [some 0, some 1] rfl rfl ?_ ?_
        · (repeat' (first | exact True.intro | exact rfl | exact Or.inl rfl | exact Or.inr rfl | refine And.intro ?_ ?_ | fail))
        · (repeat' (first | exact True.intro | exact rfl | exact Or.inl rfl | exact Or.inr rfl | refine And.intro ?_ ?_ | fail))
      all_goals (exfalso; grind)
    · refine ⟨p, n, rfl, ?_⟩
      have hw := hk.read n (by omega) (by omega)
      generalize pipeRead p n = w at hw ⊢
      obtain ⟨w1, wl, we⟩ := w
      dsimp only at hw
      obtain ⟨hw1, hw2, hw3⟩ := hw
      subst hw1
      have hgl : got.length + wl.length ≤ 200 := by
        have := congrArg List.length hw3.all
        simp only [List.length_append, List.length_take] at this
        omega
      repeat' (first | exact True.intro | refine ⟨_, LeL.refl _, ?_⟩ | refine ⟨_, _, _, LeL.refl _, ?_⟩ | (refine fun (b : Bool) hb => ?_; cases b <;> (first | exact absurd hb (by decide) | exact Bool.noConfusion (show true = false from hb) | exact Bool.noConfusion (show false = true from hb) | skip)) | (refine fun (hl : _ ≤ MAXL) => ?_) | refine And.intro (a := I64 _) ?_ ?_ | refine And.intro (a := _ ≤ 140737488355328) ?_ ?_ | refine ⟨_, ⟨rfl, rfl⟩, ?_⟩ | refine ⟨_, And.intro (a := I64 _) ?_ ⟨rfl, rfl⟩, ?_⟩ | refine ⟨_, _, ⟨rfl, rfl⟩, ?_⟩ | refine ⟨_, (fun _ => ⟨rfl, rfl⟩), ?_⟩ | refine And.intro (a := chkPend _ _ _ _ _ _) ?_ ?_ | refine And.intro (a := chkPast _ _ _ _ _ _ _ _) ?_ ?_ | refine ⟨⟨rfl, rfl⟩, ?_⟩ | refine ⟨True.intro, ?_⟩ | refine ⟨_, ⟨_, rfl, ?_, rfl, rfl, rfl⟩, ?_⟩ | refine ⟨_, rfl, ?_, rfl, ?_⟩ | refine ⟨_, (fun _ => rfl), rfl, ?_⟩ | refine ⟨(fun _ => rfl), ?_⟩ | refine ⟨rfl, ?_⟩ | fail)
      · refine ⟨_, _, ⟨fun _ => rfl, ?_, rfl, rfl⟩, ?_⟩
        · simp only [List.length_map]
          omega
        repeat' (first | exact True.intro | refine ⟨_, LeL.refl _, ?_⟩ | refine ⟨_, _, _, LeL.refl _, ?_⟩ | (refine fun (b : Bool) hb => ?_; cases b <;> (first | exact absurd hb (by decide) | exact Bool.noConfusion (show true = false from hb) | exact Bool.noConfusion (show false = true from hb) | skip)) | (refine fun (hl : _ ≤ MAXL) => ?_) | refine And.intro (a := I64 _) ?_ ?_ | refine And.intro (a := _ ≤ 140737488355328) ?_ ?_ | refine ⟨_, ⟨rfl, rfl⟩, ?_⟩ | refine ⟨_, And.intro (a := I64 _) ?_ ⟨rfl, rfl⟩, ?_⟩ | refine ⟨_, _, ⟨rfl, rfl⟩, ?_⟩ | refine ⟨_, (fun _ => ⟨rfl, rfl⟩), ?_⟩ | refine And.intro (a := chkPend _ _ _ _ _ _) ?_ ?_ | refine And.intro (a := chkPast _ _ _ _ _ _ _ _) ?_ ?_ | refine ⟨⟨rfl, rfl⟩, ?_⟩ | refine ⟨True.intro, ?_⟩ | refine ⟨_, ⟨_, rfl, ?_, rfl, rfl, rfl⟩, ?_⟩ | refine ⟨_, rfl, ?_, rfl, ?_⟩ | refine ⟨_, (fun _ => rfl), rfl, ?_⟩ | refine ⟨(fun _ => rfl), ?_⟩ | refine ⟨rfl, ?_⟩ | fail)
        refine ⟨(w1, sent, got ++ wl), ?_, hw3⟩
        refine wk_sel [some 0, some 3] rfl rfl ⟨?_, ?_, trivial⟩ ?_
        · (repeat' (first | exact True.intro | exact rfl | exact Or.inl rfl | exact Or.inr rfl | refine And.intro ?_ ?_ | fail))
        · rw [List.map_append]
          exact rfl
        · (repeat' (first | exact True.intro | exact rfl | exact Or.inl rfl | exact Or.inr rfl | refine And.intro ?_ ?_ | fail))
      all_goals (exfalso; grind)
  · rintro ⟨p2, sent2, got2⟩ hk2
    replace hk2 : Kept r B p2 sent2 got2 := hk2
    have hs2 := pipe_small hk2.chk
    have hle2 := hk2.le
    conv => whnf
    refine borrow_intro [(0, .int .i64 r), (1, .sl byteV B), (7, .elt (.agg [.sl byteV p2.b, .int .i64 p2.room, .bool p2.closed, .bool p2.shut]) 0), (9, .int .i64 sent2), (10, .sl byteV got2)] ?_ ?_
    · refine ⟨⟨rfl, rfl⟩, ⟨rfl, rfl⟩, ⟨rfl, rfl⟩, ⟨rfl, rfl⟩, rfl, trivial⟩
    refine ⟨_, ⟨rfl, rfl⟩, ?_⟩
    refine ⟨_, ⟨p2, rfl, rfl, rfl⟩, ?_⟩
    rw [hk2.chk]
    have hfl : [got2, p2.b].flatten = B.take sent2 := by simpa using hk2.all
    have hfl2 : [got2, p2.b].flatten.length ≤ 1000000 := by
      rw [hfl, List.length_take]
      omega
    repeat' (first | exact True.intro | refine ⟨_, LeL.refl _, ?_⟩ | refine ⟨_, _, _, LeL.refl _, ?_⟩ | (refine fun (b : Bool) hb => ?_; cases b <;> (first | exact absurd hb (by decide) | exact Bool.noConfusion (show true = false from hb) | exact Bool.noConfusion (show false = true from hb) | skip)) | (refine fun (hl : _ ≤ MAXL) => ?_) | refine And.intro (a := I64 _) ?_ ?_ | refine And.intro (a := _ ≤ 140737488355328) ?_ ?_ | refine ⟨_, ⟨rfl, rfl⟩, ?_⟩ | refine ⟨_, And.intro (a := I64 _) ?_ ⟨rfl, rfl⟩, ?_⟩ | refine ⟨_, _, ⟨rfl, rfl⟩, ?_⟩ | refine ⟨_, (fun _ => ⟨rfl, rfl⟩), ?_⟩ | refine And.intro (a := chkPend _ _ _ _ _ _) ?_ ?_ | refine And.intro (a := chkPast _ _ _ _ _ _ _ _) ?_ ?_ | refine ⟨⟨rfl, rfl⟩, ?_⟩ | refine ⟨True.intro, ?_⟩ | refine ⟨_, ⟨_, rfl, ?_, rfl, rfl, rfl⟩, ?_⟩ | refine ⟨_, rfl, ?_, rfl, ?_⟩ | refine ⟨_, (fun _ => rfl), rfl, ?_⟩ | refine ⟨(fun _ => rfl), ?_⟩ | refine ⟨rfl, ?_⟩ | fail)
    · refine ⟨_, ⟨List UInt8, blV, [got2, p2.b], LeL.refl _, rfl, rfl⟩, ?_⟩
      refine ⟨_, ⟨[got2, p2.b], rfl, hfl2, rfl, rfl⟩, ?_⟩
      repeat' (first | exact True.intro | refine ⟨_, LeL.refl _, ?_⟩ | refine ⟨_, _, _, LeL.refl _, ?_⟩ | (refine fun (b : Bool) hb => ?_; cases b <;> (first | exact absurd hb (by decide) | exact Bool.noConfusion (show true = false from hb) | exact Bool.noConfusion (show false = true from hb) | skip)) | (refine fun (hl : _ ≤ MAXL) => ?_) | refine And.intro (a := I64 _) ?_ ?_ | refine And.intro (a := _ ≤ 140737488355328) ?_ ?_ | refine ⟨_, ⟨rfl, rfl⟩, ?_⟩ | refine ⟨_, And.intro (a := I64 _) ?_ ⟨rfl, rfl⟩, ?_⟩ | refine ⟨_, _, ⟨rfl, rfl⟩, ?_⟩ | refine ⟨_, (fun _ => ⟨rfl, rfl⟩), ?_⟩ | refine And.intro (a := chkPend _ _ _ _ _ _) ?_ ?_ | refine And.intro (a := chkPast _ _ _ _ _ _ _ _) ?_ ?_ | refine ⟨⟨rfl, rfl⟩, ?_⟩ | refine ⟨True.intro, ?_⟩ | refine ⟨_, ⟨_, rfl, ?_, rfl, rfl, rfl⟩, ?_⟩ | refine ⟨_, rfl, ?_, rfl, ?_⟩ | refine ⟨_, (fun _ => rfl), rfl, ?_⟩ | refine ⟨(fun _ => rfl), ?_⟩ | refine ⟨rfl, ?_⟩ | fail)
      refine ⟨_, ⟨fun _ => rfl, sent2, rfl, hle2, rfl, rfl⟩, ?_⟩
      refine ⟨_, ⟨[got2, p2.b].flatten, B.take sent2, rfl, rfl, rfl⟩, ?_⟩
      rw [hfl]
      repeat' (first | exact True.intro | refine ⟨_, LeL.refl _, ?_⟩ | refine ⟨_, _, _, LeL.refl _, ?_⟩ | (refine fun (b : Bool) hb => ?_; cases b <;> (first | exact absurd hb (by decide) | exact Bool.noConfusion (show true = false from hb) | exact Bool.noConfusion (show false = true from hb) | skip)) | (refine fun (hl : _ ≤ MAXL) => ?_) | refine And.intro (a := I64 _) ?_ ?_ | refine And.intro (a := _ ≤ 140737488355328) ?_ ?_ | refine ⟨_, ⟨rfl, rfl⟩, ?_⟩ | refine ⟨_, And.intro (a := I64 _) ?_ ⟨rfl, rfl⟩, ?_⟩ | refine ⟨_, _, ⟨rfl, rfl⟩, ?_⟩ | refine ⟨_, (fun _ => ⟨rfl, rfl⟩), ?_⟩ | refine And.intro (a := chkPend _ _ _ _ _ _) ?_ ?_ | refine And.intro (a := chkPast _ _ _ _ _ _ _ _) ?_ ?_ | refine ⟨⟨rfl, rfl⟩, ?_⟩ | refine ⟨True.intro, ?_⟩ | refine ⟨_, ⟨_, rfl, ?_, rfl, rfl, rfl⟩, ?_⟩ | refine ⟨_, rfl, ?_, rfl, ?_⟩ | refine ⟨_, (fun _ => rfl), rfl, ?_⟩ | refine ⟨(fun _ => rfl), ?_⟩ | refine ⟨rfl, ?_⟩ | fail)
      refine ⟨[(0, .int .i64 r), (1, .sl byteV B), (6, .lit false), (7, .ptr 0 0 0), (9, .int .i64 sent2), (10, .own 1), (41, .sl intV S), (42, .int .i64 S.length), (43, .int .i64 i), (129, _)], ⟨rfl, rfl, rfl, rfl, rfl, rfl, rfl, rfl, rfl, ⟨rfl, rfl⟩, trivial⟩, ?_⟩
      repeat' (first | exact True.intro | refine ⟨_, LeL.refl _, ?_⟩ | refine ⟨_, _, _, LeL.refl _, ?_⟩ | (refine fun (b : Bool) hb => ?_; cases b <;> (first | exact absurd hb (by decide) | exact Bool.noConfusion (show true = false from hb) | exact Bool.noConfusion (show false = true from hb) | skip)) | (refine fun (hl : _ ≤ MAXL) => ?_) | refine And.intro (a := I64 _) ?_ ?_ | refine And.intro (a := _ ≤ 140737488355328) ?_ ?_ | refine ⟨_, ⟨rfl, rfl⟩, ?_⟩ | refine ⟨_, And.intro (a := I64 _) ?_ ⟨rfl, rfl⟩, ?_⟩ | refine ⟨_, _, ⟨rfl, rfl⟩, ?_⟩ | refine ⟨_, (fun _ => ⟨rfl, rfl⟩), ?_⟩ | refine And.intro (a := chkPend _ _ _ _ _ _) ?_ ?_ | refine And.intro (a := chkPast _ _ _ _ _ _ _ _) ?_ ?_ | refine ⟨⟨rfl, rfl⟩, ?_⟩ | refine ⟨True.intro, ?_⟩ | refine ⟨_, ⟨_, rfl, ?_, rfl, rfl, rfl⟩, ?_⟩ | refine ⟨_, rfl, ?_, rfl, ?_⟩ | refine ⟨_, (fun _ => rfl), rfl, ?_⟩ | refine ⟨(fun _ => rfl), ?_⟩ | refine ⟨rfl, ?_⟩ | fail)
      · (unfold I64; (first | omega | (dsimp only at *; omega) | grind))
      · refine ⟨(i + 1, p2, sent2, got2), ?_, ⟨hi2, hk2⟩, ?_⟩
        · refine wk_sel [some 0, some 1] rfl rfl ?_ ?_
          · (repeat' (first | exact True.intro | exact rfl | exact Or.inl rfl | exact Or.inr rfl | refine And.intro ?_ ?_ | fail))
          · (repeat' (first | exact True.intro | exact rfl | exact Or.inl rfl | exact Or.inr rfl | refine And.intro ?_ ?_ | fail))
        · show S.length - (i + 1) < S.length - i
          omega
      · exfalso
        simp at *
    · refine ⟨_, ⟨List UInt8, blV, [got2, p2.b], LeL.refl _, rfl, rfl⟩, ?_⟩
      refine ⟨_, ⟨[got2, p2.b], rfl, hfl2, rfl, rfl⟩, ?_⟩
      repeat' (first | exact True.intro | refine ⟨_, LeL.refl _, ?_⟩ | refine ⟨_, _, _, LeL.refl _, ?_⟩ | (refine fun (b : Bool) hb => ?_; cases b <;> (first | exact absurd hb (by decide) | exact Bool.noConfusion (show true = false from hb) | exact Bool.noConfusion (show false = true from hb) | skip)) | (refine fun (hl : _ ≤ MAXL) => ?_) | refine And.intro (a := I64 _) ?_ ?_ | refine And.intro (a := _ ≤ 140737488355328) ?_ ?_ | refine ⟨_, ⟨rfl, rfl⟩, ?_⟩ | refine ⟨_, And.intro (a := I64 _) ?_ ⟨rfl, rfl⟩, ?_⟩ | refine ⟨_, _, ⟨rfl, rfl⟩, ?_⟩ | refine ⟨_, (fun _ => ⟨rfl, rfl⟩), ?_⟩ | refine And.intro (a := chkPend _ _ _ _ _ _) ?_ ?_ | refine And.intro (a := chkPast _ _ _ _ _ _ _ _) ?_ ?_ | refine ⟨⟨rfl, rfl⟩, ?_⟩ | refine ⟨True.intro, ?_⟩ | refine ⟨_, ⟨_, rfl, ?_, rfl, rfl, rfl⟩, ?_⟩ | refine ⟨_, rfl, ?_, rfl, ?_⟩ | refine ⟨_, (fun _ => rfl), rfl, ?_⟩ | refine ⟨(fun _ => rfl), ?_⟩ | refine ⟨rfl, ?_⟩ | fail)
      refine ⟨_, ⟨fun _ => rfl, sent2, rfl, hle2, rfl, rfl⟩, ?_⟩
      refine ⟨_, ⟨[got2, p2.b].flatten, B.take sent2, rfl, rfl, rfl⟩, ?_⟩
      rw [hfl]
      repeat' (first | exact True.intro | refine ⟨_, LeL.refl _, ?_⟩ | refine ⟨_, _, _, LeL.refl _, ?_⟩ | (refine fun (b : Bool) hb => ?_; cases b <;> (first | exact absurd hb (by decide) | exact Bool.noConfusion (show true = false from hb) | exact Bool.noConfusion (show false = true from hb) | skip)) | (refine fun (hl : _ ≤ MAXL) => ?_) | refine And.intro (a := I64 _) ?_ ?_ | refine And.intro (a := _ ≤ 140737488355328) ?_ ?_ | refine ⟨_, ⟨rfl, rfl⟩, ?_⟩ | refine ⟨_, And.intro (a := I64 _) ?_ ⟨rfl, rfl⟩, ?_⟩ | refine ⟨_, _, ⟨rfl, rfl⟩, ?_⟩ | refine ⟨_, (fun _ => ⟨rfl, rfl⟩), ?_⟩ | refine And.intro (a := chkPend _ _ _ _ _ _) ?_ ?_ | refine And.intro (a := chkPast _ _ _ _ _ _ _ _) ?_ ?_ | refine ⟨⟨rfl, rfl⟩, ?_⟩ | refine ⟨True.intro, ?_⟩ | refine ⟨_, ⟨_, rfl, ?_, rfl, rfl, rfl⟩, ?_⟩ | refine ⟨_, rfl, ?_, rfl, ?_⟩ | refine ⟨_, (fun _ => rfl), rfl, ?_⟩ | refine ⟨(fun _ => rfl), ?_⟩ | refine ⟨rfl, ?_⟩ | fail)
      refine ⟨[(0, .int .i64 r), (1, .sl byteV B), (6, .lit false), (7, .ptr 0 0 0), (9, .int .i64 sent2), (10, .own 1), (41, .sl intV S), (42, .int .i64 S.length), (43, .int .i64 i), (129, _)], ⟨rfl, rfl, rfl, rfl, rfl, rfl, rfl, rfl, rfl, ⟨rfl, rfl⟩, trivial⟩, ?_⟩
      repeat' (first | exact True.intro | refine ⟨_, LeL.refl _, ?_⟩ | refine ⟨_, _, _, LeL.refl _, ?_⟩ | (refine fun (b : Bool) hb => ?_; cases b <;> (first | exact absurd hb (by decide) | exact Bool.noConfusion (show true = false from hb) | exact Bool.noConfusion (show false = true from hb) | skip)) | (refine fun (hl : _ ≤ MAXL) => ?_) | refine And.intro (a := I64 _) ?_ ?_ | refine And.intro (a := _ ≤ 140737488355328) ?_ ?_ | refine ⟨_, ⟨rfl, rfl⟩, ?_⟩ | refine ⟨_, And.intro (a := I64 _) ?_ ⟨rfl, rfl⟩, ?_⟩ | refine ⟨_, _, ⟨rfl, rfl⟩, ?_⟩ | refine ⟨_, (fun _ => ⟨rfl, rfl⟩), ?_⟩ | refine And.intro (a := chkPend _ _ _ _ _ _) ?_ ?_ | refine And.intro (a := chkPast _ _ _ _ _ _ _ _) ?_ ?_ | refine ⟨⟨rfl, rfl⟩, ?_⟩ | refine ⟨True.intro, ?_⟩ | refine ⟨_, ⟨_, rfl, ?_, rfl, rfl, rfl⟩, ?_⟩ | refine ⟨_, rfl, ?_, rfl, ?_⟩ | refine ⟨_, (fun _ => rfl), rfl, ?_⟩ | refine ⟨(fun _ => rfl), ?_⟩ | refine ⟨rfl, ?_⟩ | fail)
      · (unfold I64; (first | omega | (dsimp only at *; omega) | grind))
      · refine ⟨(i + 1, p2, sent2, got2), ?_, ⟨hi2, hk2⟩, ?_⟩
        · refine wk_sel [some 0, some 1] rfl rfl ?_ ?_
          · (repeat' (first | exact True.intro | exact rfl | exact Or.inl rfl | exact Or.inr rfl | refine And.intro ?_ ?_ | fail))
          · (repeat' (first | exact True.intro | exact rfl | exact Or.inl rfl | exact Or.inr rfl | refine And.intro ?_ ?_ | fail))
        · show S.length - (i + 1) < S.length - i
          omega
      · exfalso
        simp at *
    · exfalso
      have := hk2.room
      grind
end Gv
