/- What functions of the program come to, one behind the other (Pipe): in every world, upon the conditions that each theorem names. -/
import Derived.Test.YtffljdmmambdjaaLine
set_option linter.unusedVariables false
set_option linter.unusedSimpArgs false
namespace Go.Proofs.Ytffljdmmambdjaa
open Gw Go.Proofs Go.RowKit
/-- A pipe's cells, its value. -/
def pipeCells (oa : Option Addr) (cap : Nat) (p : PipeS) : Array Value := #[.slice oa p.b.length cap, .int .i64 p.room, .bool p.closed, .bool p.shut]
/-- A value that is this pipe. -/
def IsPipe (m : Mem) (v : Value) (p : PipeS) : Prop := ∃ oa cap, v = .agg (pipeCells oa cap p) ∧ Bys m oa cap p.b
theorem IsPipe.up {m m' : Mem} {v : Value} {p : PipeS} (h : IsPipe m v p) (hl : m.Le m') : IsPipe m' v p := let ⟨a, b, c, d⟩ := h; ⟨a, b, c, d.up hl⟩
theorem IsPipe.zero {m : Mem} {oa : Option Addr} : IsPipe m (.agg #[.slice oa 0 0, .int .i64 0, .bool false, .bool false]) zPipe := ⟨oa, 0, rfl, SlA.none⟩
theorem pipeCheck_zero {p : PipeS} (h : pipeCheck p = 0) : 0 ≤ p.room ∧ p.room ≤ 1000 ∧ (0 < p.room → (p.b.length : Int) ≤ p.room) ∧ p.b.length ≤ 40000 ∧ (p.shut = true → p.b = []) := by
  unfold pipeCheck at h
  split at h
  · omega
  · split at h
    · omega
    · split at h
      · omega
      · rename_i h1 h2 h3
        refine ⟨by omega, by omega, by omega, by omega, fun hs => ?_⟩
        have : ¬ 0 < p.b.length := fun hl => h3 ⟨hs, hl⟩
        exact List.length_eq_zero_iff.1 (by omega)
theorem pipeTakes_le (p : PipeS) (n : Nat) : pipeTakes p n ≤ n := by unfold pipeTakes; (repeat' split) <;> omega
theorem pipeTakes_fits {p : PipeS} {n : Nat} (hs : p.shut = false) (h2 : p.b.length ≤ 40000) : p.b.length + pipeTakes p n ≤ 40000 := by
  unfold pipeTakes; rw [if_neg (by simp [hs])]; omega
theorem pipeTakes_pos {p : PipeS} {n : Nat} (hs : p.shut = false) (h0 : 0 < p.room) (h1 : (p.b.length : Int) ≤ p.room) (h2 : p.b.length ≤ 40000) : min (min (n : Int) (p.room - (p.b.length : Int))) (40000 - (p.b.length : Int)) = ((pipeTakes p n : Nat) : Int) := by
  unfold pipeTakes; rw [if_neg (by simp [hs]), if_pos h0]; omega
theorem pipeTakes_neg {p : PipeS} {n : Nat} (hs : p.shut = false) (h0 : p.room ≤ 0) (h2 : p.b.length ≤ 40000) : min (n : Int) (40000 - (p.b.length : Int)) = ((pipeTakes p n : Nat) : Int) := by
  unfold pipeTakes; rw [if_neg (by simp [hs]), if_neg (by omega)]; omega

set_option maxRecDepth 20000 in
theorem pipe_New (w : World) (m : Mem) (hm : Sub m w) {room : Int} (h1 : I64 room) :
    Calls Try.prog 9 #[.int .i64 room] w (Ret [] m w fun m' v => ∃ u, v = .tuple #[u, .int .i64 (pipeNew room).2] ∧ IsPipe m' u (pipeNew room).1) := by
  refine enterW (args := [.int .i64 room]) Try.func9 rfl Try.ntmps9 rfl rfl ?_
  have S := St.start hm
  refine c_region <|
    s_alloc (cs := #[.slice none 0 0, .int .i64 0, .bool false, .bool false]) S ty29 rfl rfl fun w1 b2 S3 =>
    s_v (r_assign rfl) rfl rfl rfl <|
    s_end <|
    c_seq <|
    c_region <|
    s_v (r_move rfl) rfl rfl rfl <|
    s_v (r_ii rfl rfl b_lss) rfl rfl rfl <|
    s_v (r_move rfl) rfl rfl rfl <| ?_
  refine j3 (L' := [(9, .bool ((decide (room < 0) || decide (1000 < room)))), (0, .int .i64 room), (2, .pointer (some ⟨b2, 0, none⟩)), (3, .int .i64 0)]) ?KK5 (fun K5 => ?BK5)
  case BK5 =>
    refine w_bool (t := 6) rfl (fun hc40 => ?_) (fun hc40 => ?_)
    · have hc4 := hc40
      try simp only [decide_eq_true_eq, decide_eq_false_iff_not, Bool.and_eq_true, Bool.and_eq_false_imp, Bool.or_eq_true, Bool.or_eq_false_iff, Bool.not_eq_true', Bool.not_eq_false', Bool.not_not, Int.not_lt, Int.not_le] at hc4
      refine s_off rfl rfl rfl rfl rfl rfl <|
        s_off rfl rfl rfl rfl rfl rfl <|
        s_v (r_pickT rfl rfl rfl) rfl rfl rfl <| ?_
      refine w_eq (t := 9) (v := .bool ((decide (room < 0) || decide (1000 < room)))) rfl (by rw [hc40]; first | simp only [Bool.true_and, Bool.false_and, Bool.true_or, Bool.false_or] | rfl) ?_
      exact w_only [9, 0, 2, 3] rfl K5
    · have hc4 := hc40
      try simp only [decide_eq_true_eq, decide_eq_false_iff_not, Bool.and_eq_true, Bool.and_eq_false_imp, Bool.or_eq_true, Bool.or_eq_false_iff, Bool.not_eq_true', Bool.not_eq_false', Bool.not_not, Int.not_lt, Int.not_le] at hc4
      refine s_on rfl rfl rfl <|
        s_v (r_move rfl) rfl rfl rfl <|
        s_on rfl rfl rfl <|
        s_v (r_ii rfl rfl b_gtr) rfl rfl rfl <|
        s_v (r_pickF rfl rfl rfl) rfl rfl rfl <| ?_
      refine w_eq (t := 9) (v := .bool ((decide (room < 0) || decide (1000 < room)))) rfl (by rw [hc40]; first | simp only [Bool.true_and, Bool.false_and, Bool.true_or, Bool.false_or] | rfl) ?_
      exact w_only [9, 0, 2, 3] rfl K5
  refine s_end <|
    c_if rfl (fun hc6 => ?_) (fun hc6 => ?_)
  · try simp only [decide_eq_true_eq, decide_eq_false_iff_not, Bool.and_eq_true, Bool.and_eq_false_imp, Bool.or_eq_true, Bool.or_eq_false_iff, Bool.not_eq_true', Bool.not_eq_false', Bool.not_not, Int.not_lt, Int.not_le] at hc6
    refine c_region <|
      s_v (r_build (cs := #[.slice none 0 0, .int .i64 0, .bool false, .bool false]) rfl (fun _ => by kernel_rfl)) rfl rfl rfl <|
      s_setk (R' := ((b2, .cells #[.slice none 0 0, .int .i64 0, .bool false, .bool false] 29) :: [])) 0 S3 ty29 rfl rfl rfl (by simp [Value.oneCell', str]) rfl rfl rfl fun w7 S8 =>
      s_v (r_assign rfl) rfl rfl rfl <|
      s_end <|
      c_ret <|
      e_thenR <|
      f_ret S8 rfl (Res.box (us := [.slice none 0 0, .int .i64 0, .bool false, .bool false]) 0 S8 rfl ty29 rfl rfl rfl (.tmp rfl .nil)) fun hle => ?_
    have e : pipeNew room = (zPipe, 3) := if_pos hc6
    rw [e]
    exact ⟨_, rfl, IsPipe.zero⟩
  · try simp only [decide_eq_true_eq, decide_eq_false_iff_not, Bool.and_eq_true, Bool.and_eq_false_imp, Bool.or_eq_true, Bool.or_eq_false_iff, Bool.not_eq_true', Bool.not_eq_false', Bool.not_not, Int.not_lt, Int.not_le] at hc6
    refine c_skip <|
      e_then <|
      c_region <|
      s_v (r_move rfl) rfl rfl rfl <|
      s_v (r_build (cs := #[.slice none 0 0, .int .i64 room, .bool false, .bool false]) rfl (fun _ => by kernel_rfl)) rfl rfl rfl <|
      s_setk (R' := ((b2, .cells #[.slice none 0 0, .int .i64 room, .bool false, .bool false] 29) :: [])) 0 S3 ty29 rfl rfl rfl (by simp [Value.oneCell', str]) rfl rfl rfl fun w9 S10 =>
      s_v (r_assign rfl) rfl rfl rfl <|
      s_end <|
      c_ret <|
      f_ret S10 rfl (Res.box (us := [.slice none 0 0, .int .i64 room, .bool false, .bool false]) 0 S10 rfl ty29 rfl rfl rfl (.tmp rfl .nil)) fun hle => ?_
    have e : pipeNew room = (⟨[], room, false, false⟩, 0) := if_neg (by omega)
    rw [e]
    exact ⟨_, rfl, none, 0, rfl, SlA.none⟩

set_option maxRecDepth 20000 in
theorem pipe_Check (w : World) (m : Mem) (hm : Sub m w) (p : PipeS) {oa : Option Addr} {cap : Nat} :
    Calls Try.prog 14 #[.agg #[.slice oa p.b.length cap, .int .i64 p.room, .bool p.closed, .bool p.shut]] w (RetV [] w (.int .i64 (pipeCheck p))) := by
  refine enterW (args := [.agg #[.slice oa p.b.length cap, .int .i64 p.room, .bool p.closed, .bool p.shut]]) Try.func14 rfl Try.ntmps14 rfl rfl ?_
  have S := St.start hm
  refine c_region <|
    s_box (cs := #[.slice oa p.b.length cap, .int .i64 p.room, .bool p.closed, .bool p.shut]) S rfl rfl rfl fun w1 b2 S3 =>
    s_v (r_assign rfl) rfl rfl rfl <|
    s_end <|
    c_seq <|
    c_region <|
    s_v (r_fieldAddr0 rfl fld29_1) rfl rfl rfl <|
    s_v (r_get 0 S3 ty3 rfl rfl rfl) rfl rfl rfl <|
    s_v (r_ii rfl rfl b_lss) rfl rfl rfl <|
    s_v (r_move rfl) rfl rfl rfl <| ?_
  refine j4 (L' := [(10, .bool ((decide (p.room < 0) || decide (1000 < p.room)))), (0, .agg #[.slice oa p.b.length cap, .int .i64 p.room, .bool p.closed, .bool p.shut]), (1, .pointer (some ⟨b2, 0, none⟩)), (2, .int .i64 0)]) ?KK5 (fun K5 => ?BK5)
  case BK5 =>
    refine w_bool (t := 6) rfl (fun hc40 => ?_) (fun hc40 => ?_)
    · have hc4 := hc40
      try simp only [decide_eq_true_eq, decide_eq_false_iff_not, Bool.and_eq_true, Bool.and_eq_false_imp, Bool.or_eq_true, Bool.or_eq_false_iff, Bool.not_eq_true', Bool.not_eq_false', Bool.not_not, Int.not_lt, Int.not_le] at hc4
      refine s_off rfl rfl rfl rfl rfl rfl <|
        s_off rfl rfl rfl rfl rfl rfl <|
        s_off rfl rfl rfl rfl rfl rfl <|
        s_v (r_pickT rfl rfl rfl) rfl rfl rfl <| ?_
      refine w_eq (t := 10) (v := .bool ((decide (p.room < 0) || decide (1000 < p.room)))) rfl (by rw [hc40]; first | simp only [Bool.true_and, Bool.false_and, Bool.true_or, Bool.false_or] | rfl) ?_
      exact w_only [10, 0, 1, 2] rfl K5
    · have hc4 := hc40
      try simp only [decide_eq_true_eq, decide_eq_false_iff_not, Bool.and_eq_true, Bool.and_eq_false_imp, Bool.or_eq_true, Bool.or_eq_false_iff, Bool.not_eq_true', Bool.not_eq_false', Bool.not_not, Int.not_lt, Int.not_le] at hc4
      refine s_on rfl rfl rfl <|
        s_v (r_fieldAddr0 rfl fld29_1) rfl rfl rfl <|
        s_on rfl rfl rfl <|
        s_v (r_get 0 S3 ty3 rfl rfl rfl) rfl rfl rfl <|
        s_on rfl rfl rfl <|
        s_v (r_ii rfl rfl b_gtr) rfl rfl rfl <|
        s_v (r_pickF rfl rfl rfl) rfl rfl rfl <| ?_
      refine w_eq (t := 10) (v := .bool ((decide (p.room < 0) || decide (1000 < p.room)))) rfl (by rw [hc40]; first | simp only [Bool.true_and, Bool.false_and, Bool.true_or, Bool.false_or] | rfl) ?_
      exact w_only [10, 0, 1, 2] rfl K5
  refine s_end <|
    c_if rfl (fun hc6 => ?_) (fun hc6 => ?_)
  · try simp only [decide_eq_true_eq, decide_eq_false_iff_not, Bool.and_eq_true, Bool.and_eq_false_imp, Bool.or_eq_true, Bool.or_eq_false_iff, Bool.not_eq_true', Bool.not_eq_false', Bool.not_not, Int.not_lt, Int.not_le] at hc6
    refine c_region <|
      s_v (r_assign rfl) rfl rfl rfl <|
      s_end <|
      c_ret <|
      e_thenR <|
      f_retV S3 rfl (.tmp rfl .nil) ?_
    simp only [packV, pipeCheck]
    grind
  · try simp only [decide_eq_true_eq, decide_eq_false_iff_not, Bool.and_eq_true, Bool.and_eq_false_imp, Bool.or_eq_true, Bool.or_eq_false_iff, Bool.not_eq_true', Bool.not_eq_false', Bool.not_not, Int.not_lt, Int.not_le] at hc6
    refine c_skip <|
      e_then <|
      c_seq <|
      c_region <|
      s_v (r_fieldAddr0 rfl fld29_1) rfl rfl rfl <|
      s_v (r_get 0 S3 ty3 rfl rfl rfl) rfl rfl rfl <|
      s_v (r_ii rfl rfl b_gtr) rfl rfl rfl <|
      s_v (r_move rfl) rfl rfl rfl <| ?_
    refine j7 (L' := [(21, .bool ((decide (0 < p.room) && decide (p.room < (p.b.length : Int))))), (0, .agg #[.slice oa p.b.length cap, .int .i64 p.room, .bool p.closed, .bool p.shut]), (1, .pointer (some ⟨b2, 0, none⟩)), (2, .int .i64 0), (10, .bool ((decide (p.room < 0) || decide (1000 < p.room))))]) ?KK8 (fun K8 => ?BK8)
    case BK8 =>
      refine w_bool (t := 14) rfl (fun hc70 => ?_) (fun hc70 => ?_)
      · have hc7 := hc70
        try simp only [decide_eq_true_eq, decide_eq_false_iff_not, Bool.and_eq_true, Bool.and_eq_false_imp, Bool.or_eq_true, Bool.or_eq_false_iff, Bool.not_eq_true', Bool.not_eq_false', Bool.not_not, Int.not_lt, Int.not_le] at hc7
        refine s_on rfl rfl rfl <|
          s_v (r_fieldAddr0 rfl fld29_0) rfl rfl rfl <|
          s_on rfl rfl rfl <|
          s_v (r_get 0 S3 ty27 rfl rfl rfl) rfl rfl rfl <|
          s_on rfl rfl rfl <|
          s_v (r_len rfl Try.underlying27) rfl rfl rfl <|
          s_on rfl rfl rfl <|
          s_v (r_fieldAddr0 rfl fld29_1) rfl rfl rfl <|
          s_on rfl rfl rfl <|
          s_v (r_get 0 S3 ty3 rfl rfl rfl) rfl rfl rfl <|
          s_on rfl rfl rfl <|
          s_v (r_ii rfl rfl b_gtr) rfl rfl rfl <|
          s_v (r_pickT rfl rfl rfl) rfl rfl rfl <| ?_
        refine w_eq (t := 21) (v := .bool ((decide (0 < p.room) && decide (p.room < (p.b.length : Int))))) rfl (by rw [hc70]; first | simp only [Bool.true_and, Bool.false_and, Bool.true_or, Bool.false_or] | rfl) ?_
        exact w_only [21, 0, 1, 2, 10] rfl K8
      · have hc7 := hc70
        try simp only [decide_eq_true_eq, decide_eq_false_iff_not, Bool.and_eq_true, Bool.and_eq_false_imp, Bool.or_eq_true, Bool.or_eq_false_iff, Bool.not_eq_true', Bool.not_eq_false', Bool.not_not, Int.not_lt, Int.not_le] at hc7
        refine s_off rfl rfl rfl rfl rfl rfl <|
          s_off rfl rfl rfl rfl rfl rfl <|
          s_off rfl rfl rfl rfl rfl rfl <|
          s_off rfl rfl rfl rfl rfl rfl <|
          s_off rfl rfl rfl rfl rfl rfl <|
          s_off rfl rfl rfl rfl rfl rfl <|
          s_v (r_pickF rfl rfl rfl) rfl rfl rfl <| ?_
        refine w_eq (t := 21) (v := .bool ((decide (0 < p.room) && decide (p.room < (p.b.length : Int))))) rfl (by rw [hc70]; first | simp only [Bool.true_and, Bool.false_and, Bool.true_or, Bool.false_or] | rfl) ?_
        exact w_only [21, 0, 1, 2, 10] rfl K8
    refine s_v (r_move rfl) rfl rfl rfl <| ?_
    refine j5 (L' := [(27, .bool (((decide (0 < p.room) && decide (p.room < (p.b.length : Int))) || decide (40000 < (p.b.length : Int))))), (0, .agg #[.slice oa p.b.length cap, .int .i64 p.room, .bool p.closed, .bool p.shut]), (1, .pointer (some ⟨b2, 0, none⟩)), (2, .int .i64 0), (10, .bool ((decide (p.room < 0) || decide (1000 < p.room))))]) ?KK10 (fun K10 => ?BK10)
    case BK10 =>
      refine w_bool (t := 22) rfl (fun hc90 => ?_) (fun hc90 => ?_)
      · have hc9 := hc90
        try simp only [decide_eq_true_eq, decide_eq_false_iff_not, Bool.and_eq_true, Bool.and_eq_false_imp, Bool.or_eq_true, Bool.or_eq_false_iff, Bool.not_eq_true', Bool.not_eq_false', Bool.not_not, Int.not_lt, Int.not_le] at hc9
        refine s_off rfl rfl rfl rfl rfl rfl <|
          s_off rfl rfl rfl rfl rfl rfl <|
          s_off rfl rfl rfl rfl rfl rfl <|
          s_off rfl rfl rfl rfl rfl rfl <|
          s_v (r_pickT rfl rfl rfl) rfl rfl rfl <| ?_
        refine w_eq (t := 27) (v := .bool (((decide (0 < p.room) && decide (p.room < (p.b.length : Int))) || decide (40000 < (p.b.length : Int))))) rfl (by rw [hc90]; first | simp only [Bool.true_and, Bool.false_and, Bool.true_or, Bool.false_or] | rfl) ?_
        exact w_only [27, 0, 1, 2, 10] rfl K10
      · have hc9 := hc90
        try simp only [decide_eq_true_eq, decide_eq_false_iff_not, Bool.and_eq_true, Bool.and_eq_false_imp, Bool.or_eq_true, Bool.or_eq_false_iff, Bool.not_eq_true', Bool.not_eq_false', Bool.not_not, Int.not_lt, Int.not_le] at hc9
        refine s_on rfl rfl rfl <|
          s_v (r_fieldAddr0 rfl fld29_0) rfl rfl rfl <|
          s_on rfl rfl rfl <|
          s_v (r_get 0 S3 ty27 rfl rfl rfl) rfl rfl rfl <|
          s_on rfl rfl rfl <|
          s_v (r_len rfl Try.underlying27) rfl rfl rfl <|
          s_on rfl rfl rfl <|
          s_v (r_ii rfl rfl b_gtr) rfl rfl rfl <|
          s_v (r_pickF rfl rfl rfl) rfl rfl rfl <| ?_
        refine w_eq (t := 27) (v := .bool (((decide (0 < p.room) && decide (p.room < (p.b.length : Int))) || decide (40000 < (p.b.length : Int))))) rfl (by rw [hc90]; first | simp only [Bool.true_and, Bool.false_and, Bool.true_or, Bool.false_or] | rfl) ?_
        exact w_only [27, 0, 1, 2, 10] rfl K10
    refine s_end <|
      c_if rfl (fun hc11 => ?_) (fun hc11 => ?_)
    · try simp only [decide_eq_true_eq, decide_eq_false_iff_not, Bool.and_eq_true, Bool.and_eq_false_imp, Bool.or_eq_true, Bool.or_eq_false_iff, Bool.not_eq_true', Bool.not_eq_false', Bool.not_not, Int.not_lt, Int.not_le] at hc11
      refine c_region <|
        s_v (r_assign rfl) rfl rfl rfl <|
        s_end <|
        c_ret <|
        e_thenR <|
        f_retV S3 rfl (.tmp rfl .nil) ?_
      simp only [packV, pipeCheck]
      grind
    · try simp only [decide_eq_true_eq, decide_eq_false_iff_not, Bool.and_eq_true, Bool.and_eq_false_imp, Bool.or_eq_true, Bool.or_eq_false_iff, Bool.not_eq_true', Bool.not_eq_false', Bool.not_not, Int.not_lt, Int.not_le] at hc11
      refine c_skip <|
        e_then <|
        c_seq <|
        c_region <|
        s_v (r_fieldAddr0 rfl fld29_3) rfl rfl rfl <|
        s_v (r_get 0 S3 ty4 rfl rfl rfl) rfl rfl rfl <|
        s_v (r_move rfl) rfl rfl rfl <| ?_
      refine j5 (L' := [(35, .bool ((p.shut && decide (0 < (p.b.length : Int))))), (0, .agg #[.slice oa p.b.length cap, .int .i64 p.room, .bool p.closed, .bool p.shut]), (1, .pointer (some ⟨b2, 0, none⟩)), (2, .int .i64 0), (10, .bool ((decide (p.room < 0) || decide (1000 < p.room)))), (27, .bool (((decide (0 < p.room) && decide (p.room < (p.b.length : Int))) || decide (40000 < (p.b.length : Int)))))]) ?KK13 (fun K13 => ?BK13)
      case BK13 =>
        refine w_bool (t := 30) rfl (fun hc120 => ?_) (fun hc120 => ?_)
        · have hc12 := hc120
          try simp only [decide_eq_true_eq, decide_eq_false_iff_not, Bool.and_eq_true, Bool.and_eq_false_imp, Bool.or_eq_true, Bool.or_eq_false_iff, Bool.not_eq_true', Bool.not_eq_false', Bool.not_not, Int.not_lt, Int.not_le] at hc12
          refine s_on rfl rfl rfl <|
            s_v (r_fieldAddr0 rfl fld29_0) rfl rfl rfl <|
            s_on rfl rfl rfl <|
            s_v (r_get 0 S3 ty27 rfl rfl rfl) rfl rfl rfl <|
            s_on rfl rfl rfl <|
            s_v (r_len rfl Try.underlying27) rfl rfl rfl <|
            s_on rfl rfl rfl <|
            s_v (r_ii rfl rfl b_gtr) rfl rfl rfl <|
            s_v (r_pickT rfl rfl rfl) rfl rfl rfl <| ?_
          refine w_eq (t := 35) (v := .bool ((p.shut && decide (0 < (p.b.length : Int))))) rfl (by rw [hc120]; first | simp only [Bool.true_and, Bool.false_and, Bool.true_or, Bool.false_or] | rfl) ?_
          exact w_only [35, 0, 1, 2, 10, 27] rfl K13
        · have hc12 := hc120
          try simp only [decide_eq_true_eq, decide_eq_false_iff_not, Bool.and_eq_true, Bool.and_eq_false_imp, Bool.or_eq_true, Bool.or_eq_false_iff, Bool.not_eq_true', Bool.not_eq_false', Bool.not_not, Int.not_lt, Int.not_le] at hc12
          refine s_off rfl rfl rfl rfl rfl rfl <|
            s_off rfl rfl rfl rfl rfl rfl <|
            s_off rfl rfl rfl rfl rfl rfl <|
            s_off rfl rfl rfl rfl rfl rfl <|
            s_v (r_pickF rfl rfl rfl) rfl rfl rfl <| ?_
          refine w_eq (t := 35) (v := .bool ((p.shut && decide (0 < (p.b.length : Int))))) rfl (by rw [hc120]; first | simp only [Bool.true_and, Bool.false_and, Bool.true_or, Bool.false_or] | rfl) ?_
          exact w_only [35, 0, 1, 2, 10, 27] rfl K13
      refine s_end <|
        c_if rfl (fun hc14 => ?_) (fun hc14 => ?_)
      · try simp only [decide_eq_true_eq, decide_eq_false_iff_not, Bool.and_eq_true, Bool.and_eq_false_imp, Bool.or_eq_true, Bool.or_eq_false_iff, Bool.not_eq_true', Bool.not_eq_false', Bool.not_not, Int.not_lt, Int.not_le] at hc14
        refine c_region <|
          s_v (r_assign rfl) rfl rfl rfl <|
          s_end <|
          c_ret <|
          e_thenR <|
          f_retV S3 rfl (.tmp rfl .nil) ?_
        simp only [packV, pipeCheck]
        grind
      · try simp only [decide_eq_true_eq, decide_eq_false_iff_not, Bool.and_eq_true, Bool.and_eq_false_imp, Bool.or_eq_true, Bool.or_eq_false_iff, Bool.not_eq_true', Bool.not_eq_false', Bool.not_not, Int.not_lt, Int.not_le] at hc14
        refine c_skip <|
          e_then <|
          c_region <|
          s_v (r_assign rfl) rfl rfl rfl <|
          s_end <|
          c_ret <|
          f_retV S3 rfl (.tmp rfl .nil) ?_
        simp only [packV, pipeCheck]
        grind

set_option maxRecDepth 20000 in
theorem pipe_Over (w : World) (m : Mem) (hm : Sub m w) (p : PipeS) {oa : Option Addr} {cap : Nat} :
    Calls Try.prog 20 #[.agg #[.slice oa p.b.length cap, .int .i64 p.room, .bool p.closed, .bool p.shut]] w (RetV [] w (.bool (p.closed && decide (p.b.length = 0)))) := by
  refine enterW (args := [.agg #[.slice oa p.b.length cap, .int .i64 p.room, .bool p.closed, .bool p.shut]]) Try.func20 rfl Try.ntmps20 rfl rfl ?_
  have S := St.start hm
  refine c_region <|
    s_box (cs := #[.slice oa p.b.length cap, .int .i64 p.room, .bool p.closed, .bool p.shut]) S rfl rfl rfl fun w1 b2 S3 =>
    s_v (r_assign rfl) rfl rfl rfl <|
    s_end <|
    c_region <|
    s_v (r_fieldAddr0 rfl fld29_2) rfl rfl rfl <|
    s_v (r_get 0 S3 ty4 rfl rfl rfl) rfl rfl rfl <|
    s_v (r_move rfl) rfl rfl rfl <| ?_
  refine j5 (L' := [(10, .bool ((p.closed && decide ((p.b.length : Int) = 0)))), (0, .agg #[.slice oa p.b.length cap, .int .i64 p.room, .bool p.closed, .bool p.shut]), (1, .pointer (some ⟨b2, 0, none⟩)), (2, .bool false)]) ?KK5 (fun K5 => ?BK5)
  case BK5 =>
    refine w_bool (t := 5) rfl (fun hc40 => ?_) (fun hc40 => ?_)
    · have hc4 := hc40
      try simp only [decide_eq_true_eq, decide_eq_false_iff_not, Bool.and_eq_true, Bool.and_eq_false_imp, Bool.or_eq_true, Bool.or_eq_false_iff, Bool.not_eq_true', Bool.not_eq_false', Bool.not_not, Int.not_lt, Int.not_le] at hc4
      refine s_on rfl rfl rfl <|
        s_v (r_fieldAddr0 rfl fld29_0) rfl rfl rfl <|
        s_on rfl rfl rfl <|
        s_v (r_get 0 S3 ty27 rfl rfl rfl) rfl rfl rfl <|
        s_on rfl rfl rfl <|
        s_v (r_len rfl Try.underlying27) rfl rfl rfl <|
        s_on rfl rfl rfl <|
        s_v (r_ii rfl rfl b_eql) rfl rfl rfl <|
        s_v (r_pickT rfl rfl rfl) rfl rfl rfl <| ?_
      refine w_eq (t := 10) (v := .bool ((p.closed && decide ((p.b.length : Int) = 0)))) rfl (by rw [hc40]; first | simp only [Bool.true_and, Bool.false_and, Bool.true_or, Bool.false_or] | rfl) ?_
      exact w_only [10, 0, 1, 2] rfl K5
    · have hc4 := hc40
      try simp only [decide_eq_true_eq, decide_eq_false_iff_not, Bool.and_eq_true, Bool.and_eq_false_imp, Bool.or_eq_true, Bool.or_eq_false_iff, Bool.not_eq_true', Bool.not_eq_false', Bool.not_not, Int.not_lt, Int.not_le] at hc4
      refine s_off rfl rfl rfl rfl rfl rfl <|
        s_off rfl rfl rfl rfl rfl rfl <|
        s_off rfl rfl rfl rfl rfl rfl <|
        s_off rfl rfl rfl rfl rfl rfl <|
        s_v (r_pickF rfl rfl rfl) rfl rfl rfl <| ?_
      refine w_eq (t := 10) (v := .bool ((p.closed && decide ((p.b.length : Int) = 0)))) rfl (by rw [hc40]; first | simp only [Bool.true_and, Bool.false_and, Bool.true_or, Bool.false_or] | rfl) ?_
      exact w_only [10, 0, 1, 2] rfl K5
  refine s_v (r_assign rfl) rfl rfl rfl <|
    s_end <|
    c_ret <|
    f_retV S3 rfl (.tmp rfl .nil) ?_
  simp [packV]

set_option maxRecDepth 20000 in
theorem pipe_take (w : World) (m : Mem) (hm : Sub m w) (p : PipeS) (bs : List UInt8) {oa ob : Option Addr} {cap cbp : Nat} (F : Bys m oa cap p.b) (Fb : Bys m ob cbp bs) (hc : pipeCheck p = 0) {b : Nat} (hbx : w.heap[b]? = some (.cells #[.slice oa p.b.length cap, .int .i64 p.room, .bool p.closed, .bool p.shut] 29)) (hnx : m b = none) :
    Calls Try.prog 31 #[.pointer (some ⟨b, 0, none⟩), .slice ob bs.length cbp] w (RetX b m w fun m' o' v => ∃ oa' cap', o' = .cells (pipeCells oa' cap' (pipePut p bs)) 29 ∧ Bys m' oa' cap' (pipePut p bs).b ∧ v = .int .i64 (pipeTakes p bs.length : Nat)) := by
  have l1 := Fb.len1 (by omega)
  have l2 := F.len1 (by omega)
  obtain ⟨q1, q2, q3, q4, q5⟩ := pipeCheck_zero hc
  refine enterW (args := [.pointer (some ⟨b, 0, none⟩), .slice ob bs.length cbp]) Try.func31 rfl Try.ntmps31 rfl rfl ?_
  have S := St.start1 hm hbx hnx
  refine c_region <|
    s_v (r_assign rfl) rfl rfl rfl <|
    s_end <|
    c_region <|
    s_v (r_move rfl) rfl rfl rfl <|
    s_v (r_len rfl Try.underlying27) rfl rfl rfl <|
    s_v (r_assign rfl) rfl rfl rfl <|
    s_end <|
    c_seq <|
    c_region <|
    s_v (r_move rfl) rfl rfl rfl <|
    s_v (r_nilCheck rfl) rfl rfl rfl <|
    s_v (r_fieldAddr0 rfl fld29_3) rfl rfl rfl <|
    s_v (r_get 0 S ty4 rfl rfl rfl) rfl rfl rfl <|
    s_end <|
    c_if rfl (fun hc1 => ?_) (fun hc1 => ?_)
  · try simp only [decide_eq_true_eq, decide_eq_false_iff_not, Bool.and_eq_true, Bool.and_eq_false_imp, Bool.or_eq_true, Bool.or_eq_false_iff, Bool.not_eq_true', Bool.not_eq_false', Bool.not_not, Int.not_lt, Int.not_le] at hc1
    refine c_region <|
      s_v (r_move rfl) rfl rfl rfl <|
      s_v (r_assign rfl) rfl rfl rfl <|
      s_end <|
      c_ret <|
      e_thenR <|
      f_retX 0 S rfl rfl (.tmp rfl .nil) fun hle => ?_
    have e : pipePut p bs = p := if_pos hc1
    have e2 : pipeTakes p bs.length = bs.length := if_pos hc1
    exact ⟨oa, cap, by rw [e]; rfl, by rw [e]; exact F.up hle, by rw [e2]; rfl⟩
  · try simp only [decide_eq_true_eq, decide_eq_false_iff_not, Bool.and_eq_true, Bool.and_eq_false_imp, Bool.or_eq_true, Bool.or_eq_false_iff, Bool.not_eq_true', Bool.not_eq_false', Bool.not_not, Int.not_lt, Int.not_le] at hc1
    refine c_skip <|
      e_then <|
      c_seq <|
      c_region <|
      s_v (r_move rfl) rfl rfl rfl <|
      s_v (r_nilCheck rfl) rfl rfl rfl <|
      s_v (r_fieldAddr0 rfl fld29_1) rfl rfl rfl <|
      s_v (r_get 0 S ty3 rfl rfl rfl) rfl rfl rfl <|
      s_v (r_ii rfl rfl b_gtr) rfl rfl rfl <|
      s_end <|
      c_if rfl (fun hc2 => ?_) (fun hc2 => ?_)
    · try simp only [decide_eq_true_eq, decide_eq_false_iff_not, Bool.and_eq_true, Bool.and_eq_false_imp, Bool.or_eq_true, Bool.or_eq_false_iff, Bool.not_eq_true', Bool.not_eq_false', Bool.not_not, Int.not_lt, Int.not_le] at hc2
      refine c_quiet1 S mixed (by kernel_rfl) <|
        q_v (fun w ⟨S, _⟩ => r_move rfl) rfl rfl rfl rfl <|
        q_v (fun w ⟨S, _⟩ => r_move rfl) rfl rfl rfl rfl <|
        q_v (fun w ⟨S, _⟩ => r_nilCheck rfl) rfl rfl rfl rfl <|
        q_v (fun w ⟨S, _⟩ => r_fieldAddr0 rfl fld29_1) rfl rfl rfl rfl <|
        q_v (fun w ⟨S, _⟩ => r_get 0 S ty3 rfl rfl rfl) rfl rfl rfl rfl <|
        q_v (fun w ⟨S, _⟩ => r_move rfl) rfl rfl rfl rfl <|
        q_v (fun w ⟨S, _⟩ => r_nilCheck rfl) rfl rfl rfl rfl <|
        q_v (fun w ⟨S, _⟩ => r_fieldAddr0 rfl fld29_0) rfl rfl rfl rfl <|
        q_v (fun w ⟨S, _⟩ => r_get 0 S ty27 rfl rfl rfl) rfl rfl rfl rfl <|
        q_v (fun w ⟨S, _⟩ => r_len rfl Try.underlying27) rfl rfl rfl rfl <|
        q_v (fun w ⟨S, _⟩ => r_ii rfl rfl (b_sub (by omega))) rfl rfl rfl rfl <|
        q_v (fun w ⟨S, _⟩ => r_min rfl rfl) rfl rfl rfl rfl <|
        q_v (fun w ⟨S, _⟩ => r_assign rfl) rfl rfl rfl rfl <|
        q_done1 fun w3 S4 _ =>
        e_then <|
        c_region <|
        s_v (r_move rfl) rfl rfl rfl <|
        s_v (r_move rfl) rfl rfl rfl <|
        s_v (r_nilCheck rfl) rfl rfl rfl <|
        s_v (r_fieldAddr0 rfl fld29_0) rfl rfl rfl <|
        s_v (r_get 0 S4 ty27 rfl rfl rfl) rfl rfl rfl <|
        s_v (r_len rfl Try.underlying27) rfl rfl rfl <|
        s_v (r_ii rfl rfl (b_sub (by omega))) rfl rfl rfl <|
        s_v (r_min rfl rfl) rfl rfl rfl <|
        s_v (r_assign rfl) rfl rfl rfl <|
        s_end <| ?_
      have S5 := S4.step (Bel.drew [] _)
      refine c_float 1 8 mixed (by kernel_rfl) <|
        k_v (r_move rfl) rfl rfl rfl <|
        k_v (r_move rfl) rfl rfl rfl <|
        k_v (r_nilCheck rfl) rfl rfl rfl <|
        k_v (r_fieldAddr0 rfl fld29_0) rfl rfl rfl <|
        k_v (r_get 0 S5 ty27 rfl rfl rfl) rfl rfl rfl <|
        k_v (r_move rfl) rfl rfl rfl <|
        k_v (r_move rfl) rfl rfl rfl <| ?_
      have F6 := Fb.take (pipeTakes p bs.length)
      refine k_v (r_sliceH (h := (pipeTakes p bs.length)) rfl rfl (pipeTakes_pos hc1 hc2 (q3 hc2) q4) (Nat.le_trans (by have hk := pipeTakes_le p bs.length; omega) Fb.le) Try.underlying27 ty5) rfl rfl rfl <|
        k_end <|
        w_eq (t := 45) (v := .slice ob ((bs.take (pipeTakes p bs.length)).length) cbp) rfl (by rw [List.length_take, Nat.min_eq_left (by have hk := pipeTakes_le p bs.length; omega)]) <|
        s_build_stay (E := 27) (k := 1) (e := 24) (Rel := RBys) [.slice oa p.b.length cap, .slice ob ((bs.take (pipeTakes p bs.length)).length) cbp] ([p.b, (bs.take (pipeTakes p bs.length))] : List (List UInt8)) S5 rfl (fun _ => by kernel_rfl) ⟨rfl, ⟨_, _, rfl, F⟩, ⟨rfl, ⟨_, _, rfl, F6⟩, rfl⟩⟩ rfl (by simp) (by omega) rfl fun w7 m7 b7 le7 S7 F7 => ?_
      replace Fb := Fb.up le7; replace F := F.up le7; replace F6 := F6.up le7
      refine s_callO (A := [(b, .cells #[.slice oa p.b.length cap, .int .i64 p.room, .bool p.closed, .bool p.shut] 29)]) (R := []) S7 rfl call16 (Concat_bytes _ _ S7.mem F7 (by have hk := pipeTakes_le p bs.length; have hz := pipeTakes_fits (n := bs.length) hc1 q4; have h3 : (bs.take (pipeTakes p bs.length)).length = pipeTakes p bs.length := (by rw [List.length_take, Nat.min_eq_left hk]); simp only [List.flatten_cons, List.flatten_nil, List.append_nil, List.length_append, h3]; omega)) rfl rfl fun Ro8 v8 w8 S8 O8 => ?_
      obtain ⟨oa8, cap8, rfl, lc8, bc8⟩ := O8.slice
      refine s_v (r_nilCheck rfl) rfl rfl rfl <|
        s_v (r_fieldAddr0 rfl fld29_0) rfl rfl rfl <| ?_
      obtain ⟨oa9, cap9, m9, e9, le9, S9, F9⟩ := Own.stay (A := [(b, .cells #[.slice oa p.b.length cap, .int .i64 p.room, .bool p.closed, .bool p.shut] 29)]) (R := []) O8 S8 (by intro x hx; simp only [List.mem_singleton] at hx; subst hx; exact ⟨0, _, rfl, rfl⟩)
      injection e9 with e9a e9b e9c; subst e9a e9c
      replace Fb := Fb.up le9; replace F := F.up le9; replace F6 := F6.up le9; replace F7 := F7.up le9; replace O8 := O8.up le9
      refine s_set (R' := ((b, .cells #[.slice oa8 (((([p.b, (bs.take (pipeTakes p bs.length))] : List (List UInt8))).flatten).length) cap8, .int .i64 p.room, .bool p.closed, .bool p.shut] 29) :: [])) 0 S9 ty27 rfl rfl rfl rfl rfl rfl fun w10 S11 =>
        s_np <|
        s_end <|
        c_region <|
        s_v (r_move rfl) rfl rfl rfl <|
        s_v (r_assign rfl) rfl rfl rfl <|
        s_end <|
        c_ret <|
        f_retX 0 S11 rfl rfl (.tmp rfl .nil) fun hle => ?_
      have e : pipePut p bs = ⟨p.b ++ bs.take (pipeTakes p bs.length), p.room, p.closed, p.shut⟩ := if_neg (by simp [hc1])
      have e3 : [p.b, bs.take (pipeTakes p bs.length)].flatten = p.b ++ bs.take (pipeTakes p bs.length) := by simp
      rw [e3] at F9
      exact ⟨_, _, by rw [e, e3]; rfl, by rw [e]; exact F9.up hle, by simp only [packV]; congr 1; exact pipeTakes_pos hc1 hc2 (q3 hc2) q4⟩
    · try simp only [decide_eq_true_eq, decide_eq_false_iff_not, Bool.and_eq_true, Bool.and_eq_false_imp, Bool.or_eq_true, Bool.or_eq_false_iff, Bool.not_eq_true', Bool.not_eq_false', Bool.not_not, Int.not_lt, Int.not_le] at hc2
      refine c_skip <|
        e_then <|
        c_region <|
        s_v (r_move rfl) rfl rfl rfl <|
        s_v (r_move rfl) rfl rfl rfl <|
        s_v (r_nilCheck rfl) rfl rfl rfl <|
        s_v (r_fieldAddr0 rfl fld29_0) rfl rfl rfl <|
        s_v (r_get 0 S ty27 rfl rfl rfl) rfl rfl rfl <|
        s_v (r_len rfl Try.underlying27) rfl rfl rfl <|
        s_v (r_ii rfl rfl (b_sub (by omega))) rfl rfl rfl <|
        s_v (r_min rfl rfl) rfl rfl rfl <|
        s_v (r_assign rfl) rfl rfl rfl <|
        s_end <| ?_
      have S12 := S.step (Bel.drew [] _)
      refine c_float 1 8 mixed (by kernel_rfl) <|
        k_v (r_move rfl) rfl rfl rfl <|
        k_v (r_move rfl) rfl rfl rfl <|
        k_v (r_nilCheck rfl) rfl rfl rfl <|
        k_v (r_fieldAddr0 rfl fld29_0) rfl rfl rfl <|
        k_v (r_get 0 S12 ty27 rfl rfl rfl) rfl rfl rfl <|
        k_v (r_move rfl) rfl rfl rfl <|
        k_v (r_move rfl) rfl rfl rfl <| ?_
      have F13 := Fb.take (pipeTakes p bs.length)
      refine k_v (r_sliceH (h := (pipeTakes p bs.length)) rfl rfl (pipeTakes_neg hc1 hc2 q4) (Nat.le_trans (by have hk := pipeTakes_le p bs.length; omega) Fb.le) Try.underlying27 ty5) rfl rfl rfl <|
        k_end <|
        w_eq (t := 45) (v := .slice ob ((bs.take (pipeTakes p bs.length)).length) cbp) rfl (by rw [List.length_take, Nat.min_eq_left (by have hk := pipeTakes_le p bs.length; omega)]) <|
        s_build_stay (E := 27) (k := 1) (e := 24) (Rel := RBys) [.slice oa p.b.length cap, .slice ob ((bs.take (pipeTakes p bs.length)).length) cbp] ([p.b, (bs.take (pipeTakes p bs.length))] : List (List UInt8)) S12 rfl (fun _ => by kernel_rfl) ⟨rfl, ⟨_, _, rfl, F⟩, ⟨rfl, ⟨_, _, rfl, F13⟩, rfl⟩⟩ rfl (by simp) (by omega) rfl fun w14 m14 b14 le14 S14 F14 => ?_
      replace Fb := Fb.up le14; replace F := F.up le14; replace F13 := F13.up le14
      refine s_callO (A := [(b, .cells #[.slice oa p.b.length cap, .int .i64 p.room, .bool p.closed, .bool p.shut] 29)]) (R := []) S14 rfl call16 (Concat_bytes _ _ S14.mem F14 (by have hk := pipeTakes_le p bs.length; have hz := pipeTakes_fits (n := bs.length) hc1 q4; have h3 : (bs.take (pipeTakes p bs.length)).length = pipeTakes p bs.length := (by rw [List.length_take, Nat.min_eq_left hk]); simp only [List.flatten_cons, List.flatten_nil, List.append_nil, List.length_append, h3]; omega)) rfl rfl fun Ro15 v15 w15 S15 O15 => ?_
      obtain ⟨oa15, cap15, rfl, lc15, bc15⟩ := O15.slice
      refine s_v (r_nilCheck rfl) rfl rfl rfl <|
        s_v (r_fieldAddr0 rfl fld29_0) rfl rfl rfl <| ?_
      obtain ⟨oa16, cap16, m16, e16, le16, S16, F16⟩ := Own.stay (A := [(b, .cells #[.slice oa p.b.length cap, .int .i64 p.room, .bool p.closed, .bool p.shut] 29)]) (R := []) O15 S15 (by intro x hx; simp only [List.mem_singleton] at hx; subst hx; exact ⟨0, _, rfl, rfl⟩)
      injection e16 with e16a e16b e16c; subst e16a e16c
      replace Fb := Fb.up le16; replace F := F.up le16; replace F13 := F13.up le16; replace F14 := F14.up le16; replace O15 := O15.up le16
      refine s_set (R' := ((b, .cells #[.slice oa15 (((([p.b, (bs.take (pipeTakes p bs.length))] : List (List UInt8))).flatten).length) cap15, .int .i64 p.room, .bool p.closed, .bool p.shut] 29) :: [])) 0 S16 ty27 rfl rfl rfl rfl rfl rfl fun w17 S18 =>
        s_np <|
        s_end <|
        c_region <|
        s_v (r_move rfl) rfl rfl rfl <|
        s_v (r_assign rfl) rfl rfl rfl <|
        s_end <|
        c_ret <|
        f_retX 0 S18 rfl rfl (.tmp rfl .nil) fun hle => ?_
      have e : pipePut p bs = ⟨p.b ++ bs.take (pipeTakes p bs.length), p.room, p.closed, p.shut⟩ := if_neg (by simp [hc1])
      have e3 : [p.b, bs.take (pipeTakes p bs.length)].flatten = p.b ++ bs.take (pipeTakes p bs.length) := by simp
      rw [e3] at F16
      exact ⟨_, _, by rw [e, e3]; rfl, by rw [e]; exact F16.up hle, by simp only [packV]; congr 1; exact pipeTakes_neg hc1 hc2 q4⟩

set_option maxRecDepth 20000 in
theorem pipe_Write (w : World) (m : Mem) (hm : Sub m w) (p : PipeS) {oa : Option Addr} {cap : Nat} (F : Bys m oa cap p.b) (bs : List UInt8) {ob : Option Addr} {cbp : Nat} (Fb : Bys m ob cbp bs) :
    Calls Try.prog 12 #[.agg #[.slice oa p.b.length cap, .int .i64 p.room, .bool p.closed, .bool p.shut], .slice ob bs.length cbp] w (Ret [] m w fun m' v => ∃ u, v = .tuple #[u, .int .i64 (pipeWrite p bs).2.1, .int .i64 (pipeWrite p bs).2.2] ∧ IsPipe m' u (pipeWrite p bs).1) := by
  refine enterW (args := [.agg #[.slice oa p.b.length cap, .int .i64 p.room, .bool p.closed, .bool p.shut], .slice ob bs.length cbp]) Try.func12 rfl Try.ntmps12 rfl rfl ?_
  have S := St.start hm
  refine c_region <|
    s_box (cs := #[.slice oa p.b.length cap, .int .i64 p.room, .bool p.closed, .bool p.shut]) S rfl rfl rfl fun w1 b2 S3 =>
    s_alloc (cs := #[.slice none 0 0, .int .i64 0, .bool false, .bool false]) S3 ty29 rfl rfl fun w4 b5 S6 =>
    s_v (r_assign rfl) rfl rfl rfl <|
    s_v (r_assign rfl) rfl rfl rfl <|
    s_end <|
    c_seq <|
    c_region <|
    s_v (r_getk 1 S6 ty29 rfl rfl rfl rfl) rfl rfl rfl <|
    s_callV S6 rfl call14 (pipe_Check _ _ S6.mem p) rfl rfl fun w7 S8 =>
    s_v (r_assign rfl) rfl rfl rfl <|
    s_end <|
    c_region <|
    s_v (r_move rfl) rfl rfl rfl <|
    s_v (r_ii rfl rfl b_neq) rfl rfl rfl <|
    s_end <|
    c_if rfl (fun hc9 => ?_) (fun hc9 => ?_)
  · try simp only [decide_eq_true_eq, decide_eq_false_iff_not, Bool.and_eq_true, Bool.and_eq_false_imp, Bool.or_eq_true, Bool.or_eq_false_iff, Bool.not_eq_true', Bool.not_eq_false', Bool.not_not, Int.not_lt, Int.not_le] at hc9
    refine c_region <|
      s_v (r_build (cs := #[.slice none 0 0, .int .i64 0, .bool false, .bool false]) rfl (fun _ => by kernel_rfl)) rfl rfl rfl <|
      s_v (r_move rfl) rfl rfl rfl <|
      s_setk (R' := ((b5, .cells #[.slice none 0 0, .int .i64 0, .bool false, .bool false] 29) :: ((b2, .cells #[.slice oa p.b.length cap, .int .i64 p.room, .bool p.closed, .bool p.shut] 29) :: []))) 0 S8 ty29 rfl rfl rfl (by simp [Value.oneCell', str]) rfl rfl rfl fun w10 S11 =>
      s_v (r_assign rfl) rfl rfl rfl <|
      s_v (r_assign rfl) rfl rfl rfl <|
      s_end <|
      c_ret <|
      e_thenR <|
      f_ret S11 rfl (Res.box (us := [.slice none 0 0, .int .i64 0, .bool false, .bool false]) 0 S11 rfl ty29 rfl rfl rfl (.tmp rfl (.tmp rfl .nil))) fun hle => ?_
    have e : pipeWrite p bs = (zPipe, 0, pipeCheck p) := if_pos hc9
    rw [e]; exact ⟨_, rfl, IsPipe.zero⟩
  · try simp only [decide_eq_true_eq, decide_eq_false_iff_not, Bool.and_eq_true, Bool.and_eq_false_imp, Bool.or_eq_true, Bool.or_eq_false_iff, Bool.not_eq_true', Bool.not_eq_false', Bool.not_not, Int.not_lt, Int.not_le] at hc9
    refine c_skip <|
      e_then <|
      c_seq <|
      c_region <|
      s_v (r_fieldAddr0 rfl fld29_2) rfl rfl rfl <|
      s_v (r_get 1 S8 ty4 rfl rfl rfl) rfl rfl rfl <|
      s_end <|
      c_if rfl (fun hc12 => ?_) (fun hc12 => ?_)
    · try simp only [decide_eq_true_eq, decide_eq_false_iff_not, Bool.and_eq_true, Bool.and_eq_false_imp, Bool.or_eq_true, Bool.or_eq_false_iff, Bool.not_eq_true', Bool.not_eq_false', Bool.not_not, Int.not_lt, Int.not_le] at hc12
      refine c_region <|
        s_v (r_build (cs := #[.slice none 0 0, .int .i64 0, .bool false, .bool false]) rfl (fun _ => by kernel_rfl)) rfl rfl rfl <|
        s_setk (R' := ((b5, .cells #[.slice none 0 0, .int .i64 0, .bool false, .bool false] 29) :: ((b2, .cells #[.slice oa p.b.length cap, .int .i64 p.room, .bool p.closed, .bool p.shut] 29) :: []))) 0 S8 ty29 rfl rfl rfl (by simp [Value.oneCell', str]) rfl rfl rfl fun w13 S14 =>
        s_v (r_assign rfl) rfl rfl rfl <|
        s_v (r_assign rfl) rfl rfl rfl <|
        s_end <|
        c_ret <|
        e_thenR <|
        f_ret S14 rfl (Res.box (us := [.slice none 0 0, .int .i64 0, .bool false, .bool false]) 0 S14 rfl ty29 rfl rfl rfl (.tmp rfl (.tmp rfl .nil))) fun hle => ?_
      have e : pipeWrite p bs = (zPipe, 0, 7) := by unfold pipeWrite; rw [if_neg (by simpa using hc9), if_pos hc12]
      rw [e]; exact ⟨_, rfl, IsPipe.zero⟩
    · try simp only [decide_eq_true_eq, decide_eq_false_iff_not, Bool.and_eq_true, Bool.and_eq_false_imp, Bool.or_eq_true, Bool.or_eq_false_iff, Bool.not_eq_true', Bool.not_eq_false', Bool.not_not, Int.not_lt, Int.not_le] at hc12
      refine c_skip <|
        e_then <|
        c_region <|
        s_v (r_fieldAddr0 rfl fld29_0) rfl rfl rfl <|
        s_v (r_get 1 S8 ty27 rfl rfl rfl) rfl rfl rfl <|
        s_callO (A := [(b5, .cells #[.slice none 0 0, .int .i64 0, .bool false, .bool false] 29), (b2, .cells #[.slice oa p.b.length cap, .int .i64 p.room, .bool p.closed, .bool p.shut] 29)]) (R := []) S8 rfl call30 (Clone_bytes _ _ S8.mem F (by have := pipeCheck_zero (p := p) (by simpa using hc9); omega)) rfl rfl fun Ro15 v15 w15 S15 O15 => ?_
      obtain ⟨oa15, cap15, rfl, lc15, bc15⟩ := O15.slice
      refine s_v (r_fieldAddr0 rfl fld29_0) rfl rfl rfl <|
        s_set (R' := ((b5, .cells #[.slice none 0 0, .int .i64 0, .bool false, .bool false] 29) :: ((b2, .cells #[.slice oa15 p.b.length cap15, .int .i64 p.room, .bool p.closed, .bool p.shut] 29) :: (Ro15 ++ [])))) 1 S15 ty27 rfl rfl rfl rfl rfl rfl fun w16 S17 =>
        s_end <|
        c_region <|
        s_v (r_move rfl) rfl rfl rfl <| ?_
      obtain ⟨oa18, cap18, m18, e18, le18, S18, F18⟩ := Own.stay (A := [(b5, .cells #[.slice none 0 0, .int .i64 0, .bool false, .bool false] 29), (b2, .cells #[.slice oa15 p.b.length cap15, .int .i64 p.room, .bool p.closed, .bool p.shut] 29)]) (R := []) O15 S17 (by simp)
      injection e18 with e18a e18b e18c; subst e18a e18c
      replace F := F.up le18; replace Fb := Fb.up le18; replace O15 := O15.up le18
      refine s_callX 1 S18 rfl rfl call31 (pipe_take _ _ S18.mem p bs F18 Fb (by simpa using hc9) (S18.boxes 1 _ rfl).2.1 (S18.boxes 1 _ rfl).2.2) rfl rfl fun w20 m20 o20 u20 le20 S20 h20 => ?_
      replace F := F.up le20; replace Fb := Fb.up le20; replace F18 := F18.up le20
      obtain ⟨oa19, ca19, rfl, P19, rfl⟩ := h20
      replace S20 : St _ _ _ ((b5, .cells #[.slice none 0 0, .int .i64 0, .bool false, .bool false] 29) :: ((b2, .cells #[.slice oa19 (((pipePut p bs).b).length) ca19, .int .i64 ((pipePut p bs).room), .bool ((pipePut p bs).closed), .bool ((pipePut p bs).shut)] 29) :: [])) _ _ := S20
      refine s_v (r_assign rfl) rfl rfl rfl <|
        s_end <|
        c_region <|
        s_v (r_getk 1 S20 ty29 rfl rfl rfl rfl) rfl rfl rfl <|
        s_v (r_move rfl) rfl rfl rfl <|
        s_setk (R' := ((b5, .cells #[.slice oa19 (((pipePut p bs).b).length) ca19, .int .i64 ((pipePut p bs).room), .bool ((pipePut p bs).closed), .bool ((pipePut p bs).shut)] 29) :: ((b2, .cells #[.slice oa19 (((pipePut p bs).b).length) ca19, .int .i64 ((pipePut p bs).room), .bool ((pipePut p bs).closed), .bool ((pipePut p bs).shut)] 29) :: []))) 0 S20 ty29 rfl rfl rfl (by simp [Value.oneCell', str]) rfl rfl rfl fun w21 S22 =>
        s_v (r_assign rfl) rfl rfl rfl <|
        s_v (r_assign rfl) rfl rfl rfl <|
        s_end <|
        c_ret <|
        f_ret S22 rfl (Res.box (us := [.slice oa19 (((pipePut p bs).b).length) ca19, .int .i64 ((pipePut p bs).room), .bool ((pipePut p bs).closed), .bool ((pipePut p bs).shut)]) 0 S22 rfl ty29 rfl rfl rfl (.tmp rfl (.tmp rfl .nil))) fun hle => ?_
      have e : pipeWrite p bs = (pipePut p bs, ((pipeTakes p bs.length : Nat) : Int), 0) := by unfold pipeWrite; rw [if_neg (by simpa using hc9), if_neg (by simp [hc12])]
      rw [e]; exact ⟨_, rfl, _, _, rfl, P19.up hle⟩

set_option maxRecDepth 20000 in
theorem pipe_Close (w : World) (m : Mem) (hm : Sub m w) (p : PipeS) {oa : Option Addr} {cap : Nat} (F : Bys m oa cap p.b) :
    Calls Try.prog 17 #[.agg #[.slice oa p.b.length cap, .int .i64 p.room, .bool p.closed, .bool p.shut]] w (Ret [] m w fun m' v => ∃ u, v = .tuple #[u, .int .i64 (pipeClose p).2] ∧ IsPipe m' u (pipeClose p).1) := by
  refine enterW (args := [.agg #[.slice oa p.b.length cap, .int .i64 p.room, .bool p.closed, .bool p.shut]]) Try.func17 rfl Try.ntmps17 rfl rfl ?_
  have S := St.start hm
  refine c_region <|
    s_box (cs := #[.slice oa p.b.length cap, .int .i64 p.room, .bool p.closed, .bool p.shut]) S rfl rfl rfl fun w1 b2 S3 =>
    s_alloc (cs := #[.slice none 0 0, .int .i64 0, .bool false, .bool false]) S3 ty29 rfl rfl fun w4 b5 S6 =>
    s_v (r_assign rfl) rfl rfl rfl <|
    s_end <|
    c_seq <|
    c_region <|
    s_v (r_getk 1 S6 ty29 rfl rfl rfl rfl) rfl rfl rfl <|
    s_callV S6 rfl call14 (pipe_Check _ _ S6.mem p) rfl rfl fun w7 S8 =>
    s_v (r_assign rfl) rfl rfl rfl <|
    s_end <|
    c_region <|
    s_v (r_move rfl) rfl rfl rfl <|
    s_v (r_ii rfl rfl b_neq) rfl rfl rfl <|
    s_end <|
    c_if rfl (fun hc9 => ?_) (fun hc9 => ?_)
  · try simp only [decide_eq_true_eq, decide_eq_false_iff_not, Bool.and_eq_true, Bool.and_eq_false_imp, Bool.or_eq_true, Bool.or_eq_false_iff, Bool.not_eq_true', Bool.not_eq_false', Bool.not_not, Int.not_lt, Int.not_le] at hc9
    refine c_region <|
      s_v (r_build (cs := #[.slice none 0 0, .int .i64 0, .bool false, .bool false]) rfl (fun _ => by kernel_rfl)) rfl rfl rfl <|
      s_v (r_move rfl) rfl rfl rfl <|
      s_setk (R' := ((b5, .cells #[.slice none 0 0, .int .i64 0, .bool false, .bool false] 29) :: ((b2, .cells #[.slice oa p.b.length cap, .int .i64 p.room, .bool p.closed, .bool p.shut] 29) :: []))) 0 S8 ty29 rfl rfl rfl (by simp [Value.oneCell', str]) rfl rfl rfl fun w10 S11 =>
      s_v (r_assign rfl) rfl rfl rfl <|
      s_end <|
      c_ret <|
      e_thenR <|
      f_ret S11 rfl (Res.box (us := [.slice none 0 0, .int .i64 0, .bool false, .bool false]) 0 S11 rfl ty29 rfl rfl rfl (.tmp rfl .nil)) fun hle => ?_
    have e : pipeClose p = (zPipe, pipeCheck p) := if_pos hc9
    rw [e]; exact ⟨_, rfl, IsPipe.zero⟩
  · try simp only [decide_eq_true_eq, decide_eq_false_iff_not, Bool.and_eq_true, Bool.and_eq_false_imp, Bool.or_eq_true, Bool.or_eq_false_iff, Bool.not_eq_true', Bool.not_eq_false', Bool.not_not, Int.not_lt, Int.not_le] at hc9
    refine c_skip <|
      e_then <|
      c_seq <|
      c_region <|
      s_v (r_fieldAddr0 rfl fld29_2) rfl rfl rfl <|
      s_v (r_get 1 S8 ty4 rfl rfl rfl) rfl rfl rfl <|
      s_end <|
      c_if rfl (fun hc12 => ?_) (fun hc12 => ?_)
    · try simp only [decide_eq_true_eq, decide_eq_false_iff_not, Bool.and_eq_true, Bool.and_eq_false_imp, Bool.or_eq_true, Bool.or_eq_false_iff, Bool.not_eq_true', Bool.not_eq_false', Bool.not_not, Int.not_lt, Int.not_le] at hc12
      refine c_region <|
        s_v (r_build (cs := #[.slice none 0 0, .int .i64 0, .bool false, .bool false]) rfl (fun _ => by kernel_rfl)) rfl rfl rfl <|
        s_setk (R' := ((b5, .cells #[.slice none 0 0, .int .i64 0, .bool false, .bool false] 29) :: ((b2, .cells #[.slice oa p.b.length cap, .int .i64 p.room, .bool p.closed, .bool p.shut] 29) :: []))) 0 S8 ty29 rfl rfl rfl (by simp [Value.oneCell', str]) rfl rfl rfl fun w13 S14 =>
        s_v (r_assign rfl) rfl rfl rfl <|
        s_end <|
        c_ret <|
        e_thenR <|
        f_ret S14 rfl (Res.box (us := [.slice none 0 0, .int .i64 0, .bool false, .bool false]) 0 S14 rfl ty29 rfl rfl rfl (.tmp rfl .nil)) fun hle => ?_
      have e : pipeClose p = (zPipe, 7) := by unfold pipeClose; rw [if_neg (by simpa using hc9), if_pos hc12]
      rw [e]; exact ⟨_, rfl, IsPipe.zero⟩
    · try simp only [decide_eq_true_eq, decide_eq_false_iff_not, Bool.and_eq_true, Bool.and_eq_false_imp, Bool.or_eq_true, Bool.or_eq_false_iff, Bool.not_eq_true', Bool.not_eq_false', Bool.not_not, Int.not_lt, Int.not_le] at hc12
      refine c_skip <|
        e_then <|
        c_region <|
        s_v (r_fieldAddr0 rfl fld29_0) rfl rfl rfl <|
        s_v (r_get 1 S8 ty27 rfl rfl rfl) rfl rfl rfl <|
        s_callO (A := [(b5, .cells #[.slice none 0 0, .int .i64 0, .bool false, .bool false] 29), (b2, .cells #[.slice oa p.b.length cap, .int .i64 p.room, .bool p.closed, .bool p.shut] 29)]) (R := []) S8 rfl call30 (Clone_bytes _ _ S8.mem F (by have := pipeCheck_zero (p := p) (by simpa using hc9); omega)) rfl rfl fun Ro15 v15 w15 S15 O15 => ?_
      obtain ⟨oa15, cap15, rfl, lc15, bc15⟩ := O15.slice
      refine s_v (r_fieldAddr0 rfl fld29_0) rfl rfl rfl <|
        s_set (R' := ((b5, .cells #[.slice none 0 0, .int .i64 0, .bool false, .bool false] 29) :: ((b2, .cells #[.slice oa15 p.b.length cap15, .int .i64 p.room, .bool p.closed, .bool p.shut] 29) :: (Ro15 ++ [])))) 1 S15 ty27 rfl rfl rfl rfl rfl rfl fun w16 S17 =>
        s_v (r_fieldAddr0 rfl fld29_2) rfl rfl rfl <|
        s_set (R' := ((b5, .cells #[.slice none 0 0, .int .i64 0, .bool false, .bool false] 29) :: ((b2, .cells #[.slice oa15 p.b.length cap15, .int .i64 p.room, .bool true, .bool p.shut] 29) :: (Ro15 ++ [])))) 1 S17 ty4 rfl rfl rfl rfl rfl rfl fun w18 S19 =>
        s_end <|
        c_region <|
        s_v (r_getk 1 S19 ty29 rfl rfl rfl rfl) rfl rfl rfl <|
        s_setk (R' := ((b5, .cells #[.slice oa15 p.b.length cap15, .int .i64 p.room, .bool true, .bool p.shut] 29) :: ((b2, .cells #[.slice oa15 p.b.length cap15, .int .i64 p.room, .bool true, .bool p.shut] 29) :: (Ro15 ++ [])))) 0 S19 ty29 rfl rfl rfl (by simp [Value.oneCell', str]) rfl rfl rfl fun w20 S21 =>
        s_v (r_assign rfl) rfl rfl rfl <|
        s_end <|
        c_ret <| ?_
      obtain ⟨oa22, cap22, m22, e22, le22, S22, F22⟩ := Own.stay (A := [(b5, .cells #[.slice oa15 p.b.length cap15, .int .i64 p.room, .bool true, .bool p.shut] 29), (b2, .cells #[.slice oa15 p.b.length cap15, .int .i64 p.room, .bool true, .bool p.shut] 29)]) (R := []) O15 S21 (by simp)
      injection e22 with e22a e22b e22c; subst e22a e22c
      replace F := F.up le22; replace O15 := O15.up le22
      refine f_ret S22 rfl (Res.box (us := [.slice oa15 p.b.length cap15, .int .i64 p.room, .bool true, .bool p.shut]) 0 S21 rfl ty29 rfl rfl rfl (.tmp rfl .nil)) fun hle => ?_
      have e : pipeClose p = ({ p with closed := true }, 0) := by unfold pipeClose; rw [if_neg (by simpa using hc9), if_neg (by simp [hc12])]
      rw [e]; exact ⟨_, rfl, _, _, rfl, F22.up hle⟩

set_option maxRecDepth 20000 in
theorem pipe_Shut (w : World) (m : Mem) (hm : Sub m w) (p : PipeS) {oa : Option Addr} {cap : Nat} :
    Calls Try.prog 18 #[.agg #[.slice oa p.b.length cap, .int .i64 p.room, .bool p.closed, .bool p.shut]] w (Ret [] m w fun m' v => ∃ u, v = .tuple #[u, .int .i64 (pipeShut p).2] ∧ IsPipe m' u (pipeShut p).1) := by
  refine enterW (args := [.agg #[.slice oa p.b.length cap, .int .i64 p.room, .bool p.closed, .bool p.shut]]) Try.func18 rfl Try.ntmps18 rfl rfl ?_
  have S := St.start hm
  refine c_region <|
    s_box (cs := #[.slice oa p.b.length cap, .int .i64 p.room, .bool p.closed, .bool p.shut]) S rfl rfl rfl fun w1 b2 S3 =>
    s_alloc (cs := #[.slice none 0 0, .int .i64 0, .bool false, .bool false]) S3 ty29 rfl rfl fun w4 b5 S6 =>
    s_v (r_assign rfl) rfl rfl rfl <|
    s_end <|
    c_seq <|
    c_region <|
    s_v (r_getk 1 S6 ty29 rfl rfl rfl rfl) rfl rfl rfl <|
    s_callV S6 rfl call14 (pipe_Check _ _ S6.mem p) rfl rfl fun w7 S8 =>
    s_v (r_assign rfl) rfl rfl rfl <|
    s_end <|
    c_region <|
    s_v (r_move rfl) rfl rfl rfl <|
    s_v (r_ii rfl rfl b_neq) rfl rfl rfl <|
    s_end <|
    c_if rfl (fun hc9 => ?_) (fun hc9 => ?_)
  · try simp only [decide_eq_true_eq, decide_eq_false_iff_not, Bool.and_eq_true, Bool.and_eq_false_imp, Bool.or_eq_true, Bool.or_eq_false_iff, Bool.not_eq_true', Bool.not_eq_false', Bool.not_not, Int.not_lt, Int.not_le] at hc9
    refine c_region <|
      s_v (r_build (cs := #[.slice none 0 0, .int .i64 0, .bool false, .bool false]) rfl (fun _ => by kernel_rfl)) rfl rfl rfl <|
      s_v (r_move rfl) rfl rfl rfl <|
      s_setk (R' := ((b5, .cells #[.slice none 0 0, .int .i64 0, .bool false, .bool false] 29) :: ((b2, .cells #[.slice oa p.b.length cap, .int .i64 p.room, .bool p.closed, .bool p.shut] 29) :: []))) 0 S8 ty29 rfl rfl rfl (by simp [Value.oneCell', str]) rfl rfl rfl fun w10 S11 =>
      s_v (r_assign rfl) rfl rfl rfl <|
      s_end <|
      c_ret <|
      e_thenR <|
      f_ret S11 rfl (Res.box (us := [.slice none 0 0, .int .i64 0, .bool false, .bool false]) 0 S11 rfl ty29 rfl rfl rfl (.tmp rfl .nil)) fun hle => ?_
    have e : pipeShut p = (zPipe, pipeCheck p) := if_pos hc9
    rw [e]; exact ⟨_, rfl, IsPipe.zero⟩
  · try simp only [decide_eq_true_eq, decide_eq_false_iff_not, Bool.and_eq_true, Bool.and_eq_false_imp, Bool.or_eq_true, Bool.or_eq_false_iff, Bool.not_eq_true', Bool.not_eq_false', Bool.not_not, Int.not_lt, Int.not_le] at hc9
    refine c_skip <|
      e_then <|
      c_region <|
      s_v (r_fieldAddr0 rfl fld29_0) rfl rfl rfl <|
      s_set (R' := ((b5, .cells #[.slice none 0 0, .int .i64 0, .bool false, .bool false] 29) :: ((b2, .cells #[.slice none 0 0, .int .i64 p.room, .bool p.closed, .bool p.shut] 29) :: []))) 1 S8 ty27 rfl rfl rfl rfl rfl rfl fun w12 S13 =>
      s_v (r_fieldAddr0 rfl fld29_3) rfl rfl rfl <|
      s_set (R' := ((b5, .cells #[.slice none 0 0, .int .i64 0, .bool false, .bool false] 29) :: ((b2, .cells #[.slice none 0 0, .int .i64 p.room, .bool p.closed, .bool true] 29) :: []))) 1 S13 ty4 rfl rfl rfl rfl rfl rfl fun w14 S15 =>
      s_end <|
      c_region <|
      s_v (r_getk 1 S15 ty29 rfl rfl rfl rfl) rfl rfl rfl <|
      s_setk (R' := ((b5, .cells #[.slice none 0 0, .int .i64 p.room, .bool p.closed, .bool true] 29) :: ((b2, .cells #[.slice none 0 0, .int .i64 p.room, .bool p.closed, .bool true] 29) :: []))) 0 S15 ty29 rfl rfl rfl (by simp [Value.oneCell', str]) rfl rfl rfl fun w16 S17 =>
      s_v (r_assign rfl) rfl rfl rfl <|
      s_end <|
      c_ret <|
      f_ret S17 rfl (Res.box (us := [.slice none 0 0, .int .i64 p.room, .bool p.closed, .bool true]) 0 S17 rfl ty29 rfl rfl rfl (.tmp rfl .nil)) fun hle => ?_
    have e : pipeShut p = ({ p with b := [], shut := true }, 0) := by unfold pipeShut; rw [if_neg (by simpa using hc9)]
    rw [e]; exact ⟨_, rfl, none, 0, rfl, SlA.none⟩

set_option maxRecDepth 20000 in
theorem pipe_Read (w : World) (m : Mem) (hm : Sub m w) (p : PipeS) {oa : Option Addr} {cap : Nat} (F : Bys m oa cap p.b) {most : Int} (hmost : I64 most) :
    Calls Try.prog 13 #[.agg #[.slice oa p.b.length cap, .int .i64 p.room, .bool p.closed, .bool p.shut], .int .i64 most] w (Ret [] m w fun m' v => ∃ u ob cb, v = .tuple #[u, .slice ob (pipeRead p most).2.1.length cb, .int .i64 (pipeRead p most).2.2] ∧ IsPipe m' u (pipeRead p most).1 ∧ Bys m' ob cb (pipeRead p most).2.1) := by
  have l1 := F.len1 (by omega)
  refine enterW (args := [.agg #[.slice oa p.b.length cap, .int .i64 p.room, .bool p.closed, .bool p.shut], .int .i64 most]) Try.func13 rfl Try.ntmps13 rfl rfl ?_
  have S := St.start hm
  refine c_region <|
    s_box (cs := #[.slice oa p.b.length cap, .int .i64 p.room, .bool p.closed, .bool p.shut]) S rfl rfl rfl fun w1 b2 S3 =>
    s_alloc (cs := #[.slice none 0 0, .int .i64 0, .bool false, .bool false]) S3 ty29 rfl rfl fun w4 b5 S6 =>
    s_v (r_assign rfl) rfl rfl rfl <|
    s_v (r_assign rfl) rfl rfl rfl <|
    s_end <|
    c_seq <|
    c_region <|
    s_v (r_getk 1 S6 ty29 rfl rfl rfl rfl) rfl rfl rfl <|
    s_callV S6 rfl call14 (pipe_Check _ _ S6.mem p) rfl rfl fun w7 S8 =>
    s_v (r_assign rfl) rfl rfl rfl <|
    s_end <|
    c_region <|
    s_v (r_move rfl) rfl rfl rfl <|
    s_v (r_ii rfl rfl b_neq) rfl rfl rfl <|
    s_end <|
    c_if rfl (fun hc9 => ?_) (fun hc9 => ?_)
  · try simp only [decide_eq_true_eq, decide_eq_false_iff_not, Bool.and_eq_true, Bool.and_eq_false_imp, Bool.or_eq_true, Bool.or_eq_false_iff, Bool.not_eq_true', Bool.not_eq_false', Bool.not_not, Int.not_lt, Int.not_le] at hc9
    refine c_region <|
      s_v (r_build (cs := #[.slice none 0 0, .int .i64 0, .bool false, .bool false]) rfl (fun _ => by kernel_rfl)) rfl rfl rfl <|
      s_v (r_move rfl) rfl rfl rfl <|
      s_setk (R' := ((b5, .cells #[.slice none 0 0, .int .i64 0, .bool false, .bool false] 29) :: ((b2, .cells #[.slice oa p.b.length cap, .int .i64 p.room, .bool p.closed, .bool p.shut] 29) :: []))) 0 S8 ty29 rfl rfl rfl (by simp [Value.oneCell', str]) rfl rfl rfl fun w10 S11 =>
      s_v (r_assign rfl) rfl rfl rfl <|
      s_v (r_assign rfl) rfl rfl rfl <|
      s_end <|
      c_ret <|
      e_thenR <|
      f_ret S11 rfl (Res.box (us := [.slice none 0 0, .int .i64 0, .bool false, .bool false]) 0 S11 rfl ty29 rfl rfl rfl (.tmp rfl (.tmp rfl .nil))) fun hle => ?_
    have e : pipeRead p most = (zPipe, [], pipeCheck p) := if_pos hc9
    rw [e]; exact ⟨_, _, _, rfl, IsPipe.zero, SlA.none⟩
  · try simp only [decide_eq_true_eq, decide_eq_false_iff_not, Bool.and_eq_true, Bool.and_eq_false_imp, Bool.or_eq_true, Bool.or_eq_false_iff, Bool.not_eq_true', Bool.not_eq_false', Bool.not_not, Int.not_lt, Int.not_le] at hc9
    refine c_skip <|
      e_then <|
      c_seq <|
      c_region <|
      s_v (r_move rfl) rfl rfl rfl <|
      s_v (r_ii rfl rfl b_lss) rfl rfl rfl <|
      s_v (r_move rfl) rfl rfl rfl <| ?_
    refine j3 (L' := [(21, .bool ((decide (most < 0) || decide (4000 < most)))), (0, .agg #[.slice oa p.b.length cap, .int .i64 p.room, .bool p.closed, .bool p.shut]), (1, .int .i64 most), (2, .pointer (some ⟨b2, 0, none⟩)), (4, .pointer (some ⟨b5, 0, none⟩)), (5, .slice none 0 0), (6, .int .i64 0), (7, .int .i64 (pipeCheck p)), (13, .bool (!decide ((pipeCheck p) = 0)))]) ?KK13 (fun K13 => ?BK13)
    case BK13 =>
      refine w_bool (t := 18) rfl (fun hc120 => ?_) (fun hc120 => ?_)
      · have hc12 := hc120
        try simp only [decide_eq_true_eq, decide_eq_false_iff_not, Bool.and_eq_true, Bool.and_eq_false_imp, Bool.or_eq_true, Bool.or_eq_false_iff, Bool.not_eq_true', Bool.not_eq_false', Bool.not_not, Int.not_lt, Int.not_le] at hc12
        refine s_off rfl rfl rfl rfl rfl rfl <|
          s_off rfl rfl rfl rfl rfl rfl <|
          s_v (r_pickT rfl rfl rfl) rfl rfl rfl <| ?_
        refine w_eq (t := 21) (v := .bool ((decide (most < 0) || decide (4000 < most)))) rfl (by rw [hc120]; first | simp only [Bool.true_and, Bool.false_and, Bool.true_or, Bool.false_or] | rfl) ?_
        exact w_only [21, 0, 1, 2, 4, 5, 6, 7, 13] rfl K13
      · have hc12 := hc120
        try simp only [decide_eq_true_eq, decide_eq_false_iff_not, Bool.and_eq_true, Bool.and_eq_false_imp, Bool.or_eq_true, Bool.or_eq_false_iff, Bool.not_eq_true', Bool.not_eq_false', Bool.not_not, Int.not_lt, Int.not_le] at hc12
        refine s_on rfl rfl rfl <|
          s_v (r_move rfl) rfl rfl rfl <|
          s_on rfl rfl rfl <|
          s_v (r_ii rfl rfl b_gtr) rfl rfl rfl <|
          s_v (r_pickF rfl rfl rfl) rfl rfl rfl <| ?_
        refine w_eq (t := 21) (v := .bool ((decide (most < 0) || decide (4000 < most)))) rfl (by rw [hc120]; first | simp only [Bool.true_and, Bool.false_and, Bool.true_or, Bool.false_or] | rfl) ?_
        exact w_only [21, 0, 1, 2, 4, 5, 6, 7, 13] rfl K13
    refine s_end <|
      c_if rfl (fun hc14 => ?_) (fun hc14 => ?_)
    · try simp only [decide_eq_true_eq, decide_eq_false_iff_not, Bool.and_eq_true, Bool.and_eq_false_imp, Bool.or_eq_true, Bool.or_eq_false_iff, Bool.not_eq_true', Bool.not_eq_false', Bool.not_not, Int.not_lt, Int.not_le] at hc14
      refine c_region <|
        s_v (r_build (cs := #[.slice none 0 0, .int .i64 0, .bool false, .bool false]) rfl (fun _ => by kernel_rfl)) rfl rfl rfl <|
        s_setk (R' := ((b5, .cells #[.slice none 0 0, .int .i64 0, .bool false, .bool false] 29) :: ((b2, .cells #[.slice oa p.b.length cap, .int .i64 p.room, .bool p.closed, .bool p.shut] 29) :: []))) 0 S8 ty29 rfl rfl rfl (by simp [Value.oneCell', str]) rfl rfl rfl fun w15 S16 =>
        s_v (r_assign rfl) rfl rfl rfl <|
        s_v (r_assign rfl) rfl rfl rfl <|
        s_end <|
        c_ret <|
        e_thenR <|
        f_ret S16 rfl (Res.box (us := [.slice none 0 0, .int .i64 0, .bool false, .bool false]) 0 S16 rfl ty29 rfl rfl rfl (.tmp rfl (.tmp rfl .nil))) fun hle => ?_
      have e : pipeRead p most = (zPipe, [], 3) := by unfold pipeRead; rw [if_neg (by simpa using hc9), if_pos hc14]
      rw [e]; exact ⟨_, _, _, rfl, IsPipe.zero, SlA.none⟩
    · try simp only [decide_eq_true_eq, decide_eq_false_iff_not, Bool.and_eq_true, Bool.and_eq_false_imp, Bool.or_eq_true, Bool.or_eq_false_iff, Bool.not_eq_true', Bool.not_eq_false', Bool.not_not, Int.not_lt, Int.not_le] at hc14
      refine c_skip <|
        e_then <|
        c_region <|
        s_v (r_move rfl) rfl rfl rfl <|
        s_v (r_fieldAddr0 rfl fld29_0) rfl rfl rfl <|
        s_v (r_get 1 S8 ty27 rfl rfl rfl) rfl rfl rfl <|
        s_v (r_len rfl Try.underlying27) rfl rfl rfl <|
        s_v (r_min rfl rfl) rfl rfl rfl <|
        s_v (r_assign rfl) rfl rfl rfl <|
        s_end <|
        c_region <|
        s_v (r_fieldAddr0 rfl fld29_0) rfl rfl rfl <|
        s_v (r_get 1 S8 ty27 rfl rfl rfl) rfl rfl rfl <|
        s_v (r_move rfl) rfl rfl rfl <|
        s_sliceH (min most.toNat p.b.length) F rfl rfl Try.underlying27 ty5 (by rw [Int.min_def, Nat.min_def]; split <;> split <;> omega) (Nat.min_le_right _ _) rfl fun F17 =>
        s_callO (A := [(b5, .cells #[.slice none 0 0, .int .i64 0, .bool false, .bool false] 29), (b2, .cells #[.slice oa p.b.length cap, .int .i64 p.room, .bool p.closed, .bool p.shut] 29)]) (R := []) S8 rfl call30 (Clone_bytes _ _ S8.mem F17 (by have := pipeCheck_zero (p := p) (by simpa using hc9); simp; omega)) rfl rfl fun Ro18 v18 w18 S18 O18 => ?_
      obtain ⟨oa18, cap18, rfl, lc18, bc18⟩ := O18.slice
      refine s_v (r_assign rfl) rfl rfl rfl <|
        s_end <|
        c_region <|
        s_v (r_fieldAddr0 rfl fld29_0) rfl rfl rfl <|
        s_v (r_get 1 S18 ty27 rfl rfl rfl) rfl rfl rfl <|
        s_v (r_move rfl) rfl rfl rfl <|
        s_sliceL (min most.toNat p.b.length) F rfl rfl Try.underlying27 ty5 (by rw [Int.min_def, Nat.min_def]; split <;> split <;> omega) (Nat.min_le_right _ _) rfl fun oa19 cap19 F19 =>
        s_callO (A := [(b5, .cells #[.slice none 0 0, .int .i64 0, .bool false, .bool false] 29), (b2, .cells #[.slice oa p.b.length cap, .int .i64 p.room, .bool p.closed, .bool p.shut] 29)]) (R := (Ro18 ++ [])) S18 rfl call30 (Clone_bytes _ _ S18.mem F19 (by have := pipeCheck_zero (p := p) (by simpa using hc9); simp; omega)) rfl rfl fun Ro20 v20 w20 S20 O20 => ?_
      obtain ⟨oa20, cap20, rfl, lc20, bc20⟩ := O20.slice
      refine s_v (r_fieldAddr0 rfl fld29_0) rfl rfl rfl <|
        s_set (R' := ((b5, .cells #[.slice none 0 0, .int .i64 0, .bool false, .bool false] 29) :: ((b2, .cells #[.slice oa20 (((p.b.drop (min most.toNat p.b.length))).length) cap20, .int .i64 p.room, .bool p.closed, .bool p.shut] 29) :: (Ro20 ++ (Ro18 ++ []))))) 1 S20 ty27 rfl rfl rfl rfl rfl rfl fun w21 S22 =>
        s_end <|
        c_region <|
        s_v (r_getk 1 S22 ty29 rfl rfl rfl rfl) rfl rfl rfl <|
        s_v (r_move rfl) rfl rfl rfl <|
        s_setk (R' := ((b5, .cells #[.slice oa20 (((p.b.drop (min most.toNat p.b.length))).length) cap20, .int .i64 p.room, .bool p.closed, .bool p.shut] 29) :: ((b2, .cells #[.slice oa20 (((p.b.drop (min most.toNat p.b.length))).length) cap20, .int .i64 p.room, .bool p.closed, .bool p.shut] 29) :: (Ro20 ++ (Ro18 ++ []))))) 0 S22 ty29 rfl rfl rfl (by simp [Value.oneCell', str]) rfl rfl rfl fun w23 S24 =>
        s_v (r_assign rfl) rfl rfl rfl <|
        s_v (r_assign rfl) rfl rfl rfl <|
        s_end <|
        c_ret <| ?_
      obtain ⟨oa25, cap25, m25, e25, le25, S25, F25⟩ := Own.stay (A := [(b5, .cells #[.slice oa20 (((p.b.drop (min most.toNat p.b.length))).length) cap20, .int .i64 p.room, .bool p.closed, .bool p.shut] 29), (b2, .cells #[.slice oa20 (((p.b.drop (min most.toNat p.b.length))).length) cap20, .int .i64 p.room, .bool p.closed, .bool p.shut] 29)]) (R := (Ro18 ++ [])) O20 S24 (by simp)
      injection e25 with e25a e25b e25c; subst e25a e25c
      replace F := F.up le25; replace F17 := F17.up le25; replace F19 := F19.up le25; replace O18 := O18.up le25; replace O20 := O20.up le25
      obtain ⟨oa26, cap26, m26, e26, le26, S26, F26⟩ := Own.stay (A := [(b5, .cells #[.slice oa20 (((p.b.drop (min most.toNat p.b.length))).length) cap20, .int .i64 p.room, .bool p.closed, .bool p.shut] 29), (b2, .cells #[.slice oa20 (((p.b.drop (min most.toNat p.b.length))).length) cap20, .int .i64 p.room, .bool p.closed, .bool p.shut] 29)]) (R := []) O18 S25 (by simp)
      injection e26 with e26a e26b e26c; subst e26a e26c
      replace F := F.up le26; replace F17 := F17.up le26; replace F19 := F19.up le26; replace F25 := F25.up le26; replace O18 := O18.up le26
      refine f_ret S26 rfl (Res.box (us := [.slice oa20 (((p.b.drop (min most.toNat p.b.length))).length) cap20, .int .i64 p.room, .bool p.closed, .bool p.shut]) 0 S24 rfl ty29 rfl rfl rfl (.tmp rfl (.tmp rfl .nil))) fun hle => ?_
      have e : pipeRead p most = ({ p with b := p.b.drop (min most.toNat p.b.length) }, p.b.take (min most.toNat p.b.length), 0) := by unfold pipeRead; rw [if_neg (by simpa using hc9), if_neg (by omega)]
      rw [e]; exact ⟨_, _, _, rfl, ⟨_, _, rfl, F25.up hle⟩, F26.up hle⟩

end Go.Proofs.Ytffljdmmambdjaa
