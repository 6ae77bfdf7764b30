/- What functions of the program come to, one behind the other (Sl): in every world, upon the conditions that each theorem names. -/
import Derived.Test.YtffljdmmambdjaaFacts
import Derived.Test.YtffljdmmambdjaaSpec
set_option linter.unusedVariables false
set_option linter.unusedSimpArgs false
namespace Go.Proofs.Ytffljdmmambdjaa
open Gw Go.Proofs Go.RowKit
set_option maxRecDepth 20000 in
theorem Equal_bytes (w : World) (m : Mem) (hm : Sub m w) {oa ob : Option Addr} {cap cbp : Nat} {xs ys : List UInt8} (F1 : Bys m oa cap xs) (F2 : Bys m ob cbp ys) :
    Calls Try.prog 15 #[.slice oa xs.length cap, .slice ob ys.length cbp] w (RetV [] w (.bool (decide (xs = ys)))) := by
  have l1 := F1.len1 (by omega)
  have l2 := F2.len1 (by omega)
  refine enterW (args := [.slice oa xs.length cap, .slice ob ys.length cbp]) Try.func15 rfl Try.ntmps15 rfl rfl ?_
  have S := St.start hm
  refine c_region <|
    s_v (r_assign rfl) rfl rfl rfl <|
    s_end <|
    c_seq <|
    c_region <|
    s_v (r_move rfl) rfl rfl rfl <|
    s_v (r_len rfl Try.underlying27) rfl rfl rfl <|
    s_v (r_move rfl) rfl rfl rfl <|
    s_v (r_len rfl Try.underlying27) rfl rfl rfl <|
    s_v (r_ii rfl rfl b_neq) rfl rfl rfl <|
    s_end <|
    c_if rfl (fun hc1 => ?_) (fun hc1 => ?_)
  · try simp only [decide_eq_true_eq, decide_eq_false_iff_not, Bool.and_eq_true, Bool.and_eq_false_imp, Bool.or_eq_true, Bool.or_eq_false_iff, Bool.not_eq_true', Bool.not_eq_false', Bool.not_not, Int.not_lt, Int.not_le] at hc1
    refine c_region <|
      s_v (r_assign rfl) rfl rfl rfl <|
      s_end <|
      c_ret <|
      e_thenR <|
      f_retV S rfl (.tmp rfl .nil) ?_
    have : xs ≠ ys := fun e => hc1 (by rw [e])
    simp [packV, this]
  · try simp only [decide_eq_true_eq, decide_eq_false_iff_not, Bool.and_eq_true, Bool.and_eq_false_imp, Bool.or_eq_true, Bool.or_eq_false_iff, Bool.not_eq_true', Bool.not_eq_false', Bool.not_not, Int.not_lt, Int.not_le] at hc1
    refine c_skip <|
      e_then <|
      c_seq <|
      c_region <|
      s_v (r_move rfl) rfl rfl rfl <|
      s_v (r_len rfl Try.underlying27) rfl rfl rfl <|
      s_v (r_move rfl) rfl rfl rfl <|
      s_end <|
      c_block <|
      c_loop (fun k L w' => ∃ (i : Nat), L = [(0, .slice oa xs.length cap), (1, .slice ob ys.length cbp), (4, .bool false), (12, .int .i64 (((xs.length : Nat) : Int))), (13, .int .i64 (((i : Nat) : Int)))] ∧ k = xs.length - i ∧ St [] w m [] m w' ∧ i ≤ xs.length ∧ xs.take i = ys.take i) [0, 1, 4, 12, 13] rfl ⟨0, rfl, rfl, S, Nat.zero_le _, rfl⟩ ?_
    rintro _ _ w2 ⟨i, rfl, rfl, S2, hi, hp⟩
    refine c_region <|
      s_v (r_ii rfl rfl b_lss) rfl rfl rfl <|
      s_end <|
      c_seq <|
      c_if rfl (fun hc3 => ?_) (fun hc3 => ?_)
    · try simp only [decide_eq_true_eq, decide_eq_false_iff_not, Bool.and_eq_true, Bool.and_eq_false_imp, Bool.or_eq_true, Bool.or_eq_false_iff, Bool.not_eq_true', Bool.not_eq_false', Bool.not_not, Int.not_lt, Int.not_le] at hc3
      refine c_skip <|
        e_then <|
        c_seq <|
        c_block <|
        c_region <|
        s_v (r_move rfl) rfl rfl rfl <|
        s_v (r_assign rfl) rfl rfl rfl <|
        s_end <|
        c_quiet S2 mixed (by kernel_rfl) <|
        q_v (fun w ⟨S, _⟩ => r_move rfl) rfl rfl rfl rfl <|
        q_v (fun w ⟨S, _⟩ => r_move rfl) rfl rfl rfl rfl <| ?_
      obtain ⟨b4, o4, e4, cs4, l4, r4, c4⟩ := F1.el i (by omega)
      obtain rfl := r4
      subst e4
      refine q_v (fun w ⟨S, _⟩ => r_indexAddr (i := i) rfl rfl (by omega) (by omega) Try.underlying27 ty5) rfl rfl rfl rfl <|
        q_v (fun w ⟨S, _⟩ => r_el1 rfl ty5 S.mem c4) rfl rfl rfl rfl <|
        q_v (fun w ⟨S, _⟩ => r_move rfl) rfl rfl rfl rfl <|
        q_v (fun w ⟨S, _⟩ => r_move rfl) rfl rfl rfl rfl <| ?_
      obtain ⟨b5, o5, e5, cs5, l5, r5, c5⟩ := F2.el i (by omega)
      obtain rfl := r5
      subst e5
      refine q_v (fun w ⟨S, _⟩ => r_indexAddr (i := i) rfl rfl (by omega) (by omega) Try.underlying27 ty5) rfl rfl rfl rfl <|
        q_v (fun w ⟨S, _⟩ => r_el1 rfl ty5 S.mem c5) rfl rfl rfl rfl <|
        q_v (fun w ⟨S, _⟩ => r_ii rfl rfl b_neq) rfl rfl rfl rfl <|
        q_done fun w6 S7 _ =>
        c_if rfl (fun hc8 => ?_) (fun hc8 => ?_)
      · try simp only [decide_eq_true_eq, decide_eq_false_iff_not, Bool.and_eq_true, Bool.and_eq_false_imp, Bool.or_eq_true, Bool.or_eq_false_iff, Bool.not_eq_true', Bool.not_eq_false', Bool.not_not, Int.not_lt, Int.not_le] at hc8
        refine c_region <|
          s_v (r_assign rfl) rfl rfl rfl <|
          s_end <|
          c_ret <|
          e_blkR <|
          e_thenR <|
          e_thenR <|
          e_blkR <|
          e_thenR <|
          f_retV S7 rfl (.tmp rfl .nil) ?_
        have : xs ≠ ys := fun e => by
          subst e
          exact hc8 rfl
        simp [packV, this]
      · try simp only [decide_eq_true_eq, decide_eq_false_iff_not, Bool.and_eq_true, Bool.and_eq_false_imp, Bool.or_eq_true, Bool.or_eq_false_iff, Bool.not_eq_true', Bool.not_eq_false', Bool.not_not, Int.not_lt, Int.not_le] at hc8
        refine c_skip <|
          e_blk <|
          e_then <|
          c_region1 <|
          s_v (r_ii rfl rfl (b_add (by omega))) rfl rfl rfl <|
          s_v (r_move rfl) rfl rfl rfl <|
          s_nil <|
          e_then <| ?_
        have he : xs[i]'(by omega) = ys[i]'(by omega) := UInt8.toNat_inj.1 (by omega)
        refine e_again (k' := xs.length - (i + 1)) [0, 1, 4, 12, 13] (by omega) rfl ⟨i + 1, rfl, rfl, S7, by omega, take_snoc_eq hp (by omega) (by omega) he⟩ 
    · try simp only [decide_eq_true_eq, decide_eq_false_iff_not, Bool.and_eq_true, Bool.and_eq_false_imp, Bool.or_eq_true, Bool.or_eq_false_iff, Bool.not_eq_true', Bool.not_eq_false', Bool.not_not, Int.not_lt, Int.not_le] at hc3
      refine c_exit <|
        e_thenX <|
        e_thenX <|
        e_blkX <|
        e_then <|
        c_region <|
        s_v (r_assign rfl) rfl rfl rfl <|
        s_end <|
        c_ret <|
        f_retV S2 rfl (.tmp rfl .nil) ?_
      have : xs = ys := eq_of_take hp (by omega) (by omega)
      simp [packV, this]

set_option maxRecDepth 20000 in
theorem Equal_ints (w : World) (m : Mem) (hm : Sub m w) {oa ob : Option Addr} {cap cbp : Nat} {xs ys : List Int} (F1 : Ints m oa cap xs) (F2 : Ints m ob cbp ys) :
    Calls Try.prog 8 #[.slice oa xs.length cap, .slice ob ys.length cbp] w (RetV [] w (.bool (decide (xs = ys)))) := by
  have l1 := F1.len1 (by omega)
  have l2 := F2.len1 (by omega)
  refine enterW (args := [.slice oa xs.length cap, .slice ob ys.length cbp]) Try.func8 rfl Try.ntmps8 rfl rfl ?_
  have S := St.start hm
  refine c_region <|
    s_v (r_assign rfl) rfl rfl rfl <|
    s_end <|
    c_seq <|
    c_region <|
    s_v (r_move rfl) rfl rfl rfl <|
    s_v (r_len rfl Try.underlying24) rfl rfl rfl <|
    s_v (r_move rfl) rfl rfl rfl <|
    s_v (r_len rfl Try.underlying24) rfl rfl rfl <|
    s_v (r_ii rfl rfl b_neq) rfl rfl rfl <|
    s_end <|
    c_if rfl (fun hc1 => ?_) (fun hc1 => ?_)
  · try simp only [decide_eq_true_eq, decide_eq_false_iff_not, Bool.and_eq_true, Bool.and_eq_false_imp, Bool.or_eq_true, Bool.or_eq_false_iff, Bool.not_eq_true', Bool.not_eq_false', Bool.not_not, Int.not_lt, Int.not_le] at hc1
    refine c_region <|
      s_v (r_assign rfl) rfl rfl rfl <|
      s_end <|
      c_ret <|
      e_thenR <|
      f_retV S rfl (.tmp rfl .nil) ?_
    have : xs ≠ ys := fun e => hc1 (by rw [e])
    simp [packV, this]
  · try simp only [decide_eq_true_eq, decide_eq_false_iff_not, Bool.and_eq_true, Bool.and_eq_false_imp, Bool.or_eq_true, Bool.or_eq_false_iff, Bool.not_eq_true', Bool.not_eq_false', Bool.not_not, Int.not_lt, Int.not_le] at hc1
    refine c_skip <|
      e_then <|
      c_seq <|
      c_region <|
      s_v (r_move rfl) rfl rfl rfl <|
      s_v (r_len rfl Try.underlying24) rfl rfl rfl <|
      s_v (r_move rfl) rfl rfl rfl <|
      s_end <|
      c_block <|
      c_loop (fun k L w' => ∃ (i : Nat), L = [(0, .slice oa xs.length cap), (1, .slice ob ys.length cbp), (4, .bool false), (12, .int .i64 (((xs.length : Nat) : Int))), (13, .int .i64 (((i : Nat) : Int)))] ∧ k = xs.length - i ∧ St [] w m [] m w' ∧ i ≤ xs.length ∧ xs.take i = ys.take i) [0, 1, 4, 12, 13] rfl ⟨0, rfl, rfl, S, Nat.zero_le _, rfl⟩ ?_
    rintro _ _ w2 ⟨i, rfl, rfl, S2, hi, hp⟩
    refine c_region <|
      s_v (r_ii rfl rfl b_lss) rfl rfl rfl <|
      s_end <|
      c_seq <|
      c_if rfl (fun hc3 => ?_) (fun hc3 => ?_)
    · try simp only [decide_eq_true_eq, decide_eq_false_iff_not, Bool.and_eq_true, Bool.and_eq_false_imp, Bool.or_eq_true, Bool.or_eq_false_iff, Bool.not_eq_true', Bool.not_eq_false', Bool.not_not, Int.not_lt, Int.not_le] at hc3
      refine c_skip <|
        e_then <|
        c_seq <|
        c_block <|
        c_region <|
        s_v (r_move rfl) rfl rfl rfl <|
        s_v (r_assign rfl) rfl rfl rfl <|
        s_end <|
        c_quiet S2 mixed (by kernel_rfl) <|
        q_v (fun w ⟨S, _⟩ => r_move rfl) rfl rfl rfl rfl <|
        q_v (fun w ⟨S, _⟩ => r_move rfl) rfl rfl rfl rfl <| ?_
      obtain ⟨b4, o4, e4, cs4, l4, r4, c4⟩ := F1.el i (by omega)
      obtain ⟨rfl, g4⟩ := r4
      have g4a := g4.1
      have g4b := g4.2
      subst e4
      refine q_v (fun w ⟨S, _⟩ => r_indexAddr (i := i) rfl rfl (by omega) (by omega) Try.underlying24 ty3) rfl rfl rfl rfl <|
        q_v (fun w ⟨S, _⟩ => r_el1 rfl ty3 S.mem c4) rfl rfl rfl rfl <|
        q_v (fun w ⟨S, _⟩ => r_move rfl) rfl rfl rfl rfl <|
        q_v (fun w ⟨S, _⟩ => r_move rfl) rfl rfl rfl rfl <| ?_
      obtain ⟨b5, o5, e5, cs5, l5, r5, c5⟩ := F2.el i (by omega)
      obtain ⟨rfl, g5⟩ := r5
      have g5a := g5.1
      have g5b := g5.2
      subst e5
      refine q_v (fun w ⟨S, _⟩ => r_indexAddr (i := i) rfl rfl (by omega) (by omega) Try.underlying24 ty3) rfl rfl rfl rfl <|
        q_v (fun w ⟨S, _⟩ => r_el1 rfl ty3 S.mem c5) rfl rfl rfl rfl <|
        q_v (fun w ⟨S, _⟩ => r_ii rfl rfl b_neq) rfl rfl rfl rfl <|
        q_done fun w6 S7 _ =>
        c_if rfl (fun hc8 => ?_) (fun hc8 => ?_)
      · try simp only [decide_eq_true_eq, decide_eq_false_iff_not, Bool.and_eq_true, Bool.and_eq_false_imp, Bool.or_eq_true, Bool.or_eq_false_iff, Bool.not_eq_true', Bool.not_eq_false', Bool.not_not, Int.not_lt, Int.not_le] at hc8
        refine c_region <|
          s_v (r_assign rfl) rfl rfl rfl <|
          s_end <|
          c_ret <|
          e_blkR <|
          e_thenR <|
          e_thenR <|
          e_blkR <|
          e_thenR <|
          f_retV S7 rfl (.tmp rfl .nil) ?_
        have : xs ≠ ys := fun e => by
          subst e
          exact hc8 rfl
        simp [packV, this]
      · try simp only [decide_eq_true_eq, decide_eq_false_iff_not, Bool.and_eq_true, Bool.and_eq_false_imp, Bool.or_eq_true, Bool.or_eq_false_iff, Bool.not_eq_true', Bool.not_eq_false', Bool.not_not, Int.not_lt, Int.not_le] at hc8
        refine c_skip <|
          e_blk <|
          e_then <|
          c_region1 <|
          s_v (r_ii rfl rfl (b_add (by omega))) rfl rfl rfl <|
          s_v (r_move rfl) rfl rfl rfl <|
          s_nil <|
          e_then <| ?_
        have he : xs[i]'(by omega) = ys[i]'(by omega) := hc8
        refine e_again (k' := xs.length - (i + 1)) [0, 1, 4, 12, 13] (by omega) rfl ⟨i + 1, rfl, rfl, S7, by omega, take_snoc_eq hp (by omega) (by omega) he⟩ 
    · try simp only [decide_eq_true_eq, decide_eq_false_iff_not, Bool.and_eq_true, Bool.and_eq_false_imp, Bool.or_eq_true, Bool.or_eq_false_iff, Bool.not_eq_true', Bool.not_eq_false', Bool.not_not, Int.not_lt, Int.not_le] at hc3
      refine c_exit <|
        e_thenX <|
        e_thenX <|
        e_blkX <|
        e_then <|
        c_region <|
        s_v (r_assign rfl) rfl rfl rfl <|
        s_end <|
        c_ret <|
        f_retV S2 rfl (.tmp rfl .nil) ?_
      have : xs = ys := eq_of_take hp (by omega) (by omega)
      simp [packV, this]

set_option maxRecDepth 20000 in
theorem Equal_strs (w : World) (m : Mem) (hm : Sub m w) {oa ob : Option Addr} {cap cbp : Nat} {xs ys : List (List UInt8)} (F1 : Strs m oa cap xs) (F2 : Strs m ob cbp ys) :
    Calls Try.prog 27 #[.slice oa xs.length cap, .slice ob ys.length cbp] w (RetV [] w (.bool (decide (xs = ys)))) := by
  have l1 := F1.len1 (by omega)
  have l2 := F2.len1 (by omega)
  refine enterW (args := [.slice oa xs.length cap, .slice ob ys.length cbp]) Try.func27 rfl Try.ntmps27 rfl rfl ?_
  have S := St.start hm
  refine c_region <|
    s_v (r_assign rfl) rfl rfl rfl <|
    s_end <|
    c_seq <|
    c_region <|
    s_v (r_move rfl) rfl rfl rfl <|
    s_v (r_len rfl Try.underlying45) rfl rfl rfl <|
    s_v (r_move rfl) rfl rfl rfl <|
    s_v (r_len rfl Try.underlying45) rfl rfl rfl <|
    s_v (r_ii rfl rfl b_neq) rfl rfl rfl <|
    s_end <|
    c_if rfl (fun hc1 => ?_) (fun hc1 => ?_)
  · try simp only [decide_eq_true_eq, decide_eq_false_iff_not, Bool.and_eq_true, Bool.and_eq_false_imp, Bool.or_eq_true, Bool.or_eq_false_iff, Bool.not_eq_true', Bool.not_eq_false', Bool.not_not, Int.not_lt, Int.not_le] at hc1
    refine c_region <|
      s_v (r_assign rfl) rfl rfl rfl <|
      s_end <|
      c_ret <|
      e_thenR <|
      f_retV S rfl (.tmp rfl .nil) ?_
    have : xs ≠ ys := fun e => hc1 (by rw [e])
    simp [packV, this]
  · try simp only [decide_eq_true_eq, decide_eq_false_iff_not, Bool.and_eq_true, Bool.and_eq_false_imp, Bool.or_eq_true, Bool.or_eq_false_iff, Bool.not_eq_true', Bool.not_eq_false', Bool.not_not, Int.not_lt, Int.not_le] at hc1
    refine c_skip <|
      e_then <|
      c_seq <|
      c_region <|
      s_v (r_move rfl) rfl rfl rfl <|
      s_v (r_len rfl Try.underlying45) rfl rfl rfl <|
      s_v (r_move rfl) rfl rfl rfl <|
      s_end <|
      c_block <|
      c_loop (fun k L w' => ∃ (i : Nat), L = [(0, .slice oa xs.length cap), (1, .slice ob ys.length cbp), (4, .bool false), (12, .int .i64 (((xs.length : Nat) : Int))), (13, .int .i64 (((i : Nat) : Int)))] ∧ k = xs.length - i ∧ St [] w m [] m w' ∧ i ≤ xs.length ∧ xs.take i = ys.take i) [0, 1, 4, 12, 13] rfl ⟨0, rfl, rfl, S, Nat.zero_le _, rfl⟩ ?_
    rintro _ _ w2 ⟨i, rfl, rfl, S2, hi, hp⟩
    refine c_region <|
      s_v (r_ii rfl rfl b_lss) rfl rfl rfl <|
      s_end <|
      c_seq <|
      c_if rfl (fun hc3 => ?_) (fun hc3 => ?_)
    · try simp only [decide_eq_true_eq, decide_eq_false_iff_not, Bool.and_eq_true, Bool.and_eq_false_imp, Bool.or_eq_true, Bool.or_eq_false_iff, Bool.not_eq_true', Bool.not_eq_false', Bool.not_not, Int.not_lt, Int.not_le] at hc3
      refine c_skip <|
        e_then <|
        c_seq <|
        c_block <|
        c_region <|
        s_v (r_move rfl) rfl rfl rfl <|
        s_v (r_assign rfl) rfl rfl rfl <|
        s_end <|
        c_quiet S2 mixed (by kernel_rfl) <|
        q_v (fun w ⟨S, _⟩ => r_move rfl) rfl rfl rfl rfl <|
        q_v (fun w ⟨S, _⟩ => r_move rfl) rfl rfl rfl rfl <| ?_
      obtain ⟨b4, o4, e4, cs4, l4, r4, c4⟩ := F1.el i (by omega)
      obtain ⟨rfl, g4⟩ := r4
      subst e4
      refine q_v (fun w ⟨S, _⟩ => r_indexAddr (i := i) rfl rfl (by omega) (by omega) Try.underlying45 ty9) rfl rfl rfl rfl <|
        q_v (fun w ⟨S, _⟩ => r_el1 rfl ty9 S.mem c4) rfl rfl rfl rfl <|
        q_v (fun w ⟨S, _⟩ => r_move rfl) rfl rfl rfl rfl <|
        q_v (fun w ⟨S, _⟩ => r_move rfl) rfl rfl rfl rfl <| ?_
      obtain ⟨b5, o5, e5, cs5, l5, r5, c5⟩ := F2.el i (by omega)
      obtain ⟨rfl, g5⟩ := r5
      subst e5
      refine q_v (fun w ⟨S, _⟩ => r_indexAddr (i := i) rfl rfl (by omega) (by omega) Try.underlying45 ty9) rfl rfl rfl rfl <|
        q_v (fun w ⟨S, _⟩ => r_el1 rfl ty9 S.mem c5) rfl rfl rfl rfl <|
        q_v (fun w ⟨S, _⟩ => r_ss rfl rfl bs_neq) rfl rfl rfl rfl <|
        q_done fun w6 S7 _ =>
        c_if rfl (fun hc8 => ?_) (fun hc8 => ?_)
      · try simp only [decide_eq_true_eq, decide_eq_false_iff_not, Bool.and_eq_true, Bool.and_eq_false_imp, Bool.or_eq_true, Bool.or_eq_false_iff, Bool.not_eq_true', Bool.not_eq_false', Bool.not_not, Int.not_lt, Int.not_le] at hc8
        refine c_region <|
          s_v (r_assign rfl) rfl rfl rfl <|
          s_end <|
          c_ret <|
          e_blkR <|
          e_thenR <|
          e_thenR <|
          e_blkR <|
          e_thenR <|
          f_retV S7 rfl (.tmp rfl .nil) ?_
        have : xs ≠ ys := fun e => by
          subst e
          exact hc8 rfl
        simp [packV, this]
      · try simp only [decide_eq_true_eq, decide_eq_false_iff_not, Bool.and_eq_true, Bool.and_eq_false_imp, Bool.or_eq_true, Bool.or_eq_false_iff, Bool.not_eq_true', Bool.not_eq_false', Bool.not_not, Int.not_lt, Int.not_le] at hc8
        refine c_skip <|
          e_blk <|
          e_then <|
          c_region1 <|
          s_v (r_ii rfl rfl (b_add (by omega))) rfl rfl rfl <|
          s_v (r_move rfl) rfl rfl rfl <|
          s_nil <|
          e_then <| ?_
        have he : xs[i]'(by omega) = ys[i]'(by omega) := hc8
        refine e_again (k' := xs.length - (i + 1)) [0, 1, 4, 12, 13] (by omega) rfl ⟨i + 1, rfl, rfl, S7, by omega, take_snoc_eq hp (by omega) (by omega) he⟩ 
    · try simp only [decide_eq_true_eq, decide_eq_false_iff_not, Bool.and_eq_true, Bool.and_eq_false_imp, Bool.or_eq_true, Bool.or_eq_false_iff, Bool.not_eq_true', Bool.not_eq_false', Bool.not_not, Int.not_lt, Int.not_le] at hc3
      refine c_exit <|
        e_thenX <|
        e_thenX <|
        e_blkX <|
        e_then <|
        c_region <|
        s_v (r_assign rfl) rfl rfl rfl <|
        s_end <|
        c_ret <|
        f_retV S2 rfl (.tmp rfl .nil) ?_
      have : xs = ys := eq_of_take hp (by omega) (by omega)
      simp [packV, this]

set_option maxRecDepth 20000 in
theorem Clone_bytes (w : World) (m : Mem) (hm : Sub m w) {oa : Option Addr} {cap : Nat} {xs : List UInt8} (F : Bys m oa cap xs) (hb : xs.length * 1 ≤ 140737488355328) :
    Calls Try.prog 30 #[.slice oa xs.length cap] w (RetO 1 1 (Enc eByte) m w (xs)) := by
  have l1 := hb
  refine enterW (args := [.slice oa xs.length cap]) Try.func30 rfl Try.ntmps30 rfl rfl ?_
  have S := St.start hm
  refine c_region <|
    s_v (r_assign rfl) rfl rfl rfl <|
    s_end <|
    c_seq <|
    c_region <|
    s_v (r_move rfl) rfl rfl rfl <|
    s_v (r_eqnil rfl rfl Try.underlying27) rfl rfl rfl <|
    s_end <|
    c_if rfl (fun hc1 => ?_) (fun hc1 => ?_)
  · try simp only [decide_eq_true_eq, decide_eq_false_iff_not, Bool.and_eq_true, Bool.and_eq_false_imp, Bool.or_eq_true, Bool.or_eq_false_iff, Bool.not_eq_true', Bool.not_eq_false', Bool.not_not, Int.not_lt, Int.not_le] at hc1
    refine c_region <|
      s_v (r_assign rfl) rfl rfl rfl <|
      s_end <|
      c_ret <|
      e_thenR <| ?_
    have : xs = [] := by
      rcases F.row with h | ⟨b, off, arr, T, fz, h1, _⟩
      · exact h
      · simp [h1] at hc1
    subst this
    exact f_retO (A := []) (Ro := []) S rfl rfl (.tmp rfl .nil) rfl Own.nil
  · try simp only [decide_eq_true_eq, decide_eq_false_iff_not, Bool.and_eq_true, Bool.and_eq_false_imp, Bool.or_eq_true, Bool.or_eq_false_iff, Bool.not_eq_true', Bool.not_eq_false', Bool.not_not, Int.not_lt, Int.not_le] at hc1
    refine c_skip <|
      e_then <|
      c_region <|
      s_buildSlice (cs := []) (E := 5) S rfl (fun _ => by kernel_rfl) rfl fun w2 b2 hg2 S2 => ?_
    have S2 : St _ _ _ ([(b2, .cells #[] 5)] ++ []) _ _ := S2
    have O2 : Own 1 1 (Enc eByte) m [(b2, .cells #[] 5)] (.slice (some ⟨b2, 0, none⟩) ([] : List UInt8).length 0) [] := ⟨⟨[], OwnV.row rfl rfl (Nat.le_refl _) rfl (by omega), rfl⟩, by simp⟩
    obtain ⟨Ro2, eR2⟩ : ∃ r, r = [(b2, Obj.cells #[] 5)] := ⟨_, rfl⟩
    rw [← eR2] at S2 O2
    refine s_v (r_move rfl) rfl rfl rfl <|
      s_appS (A := []) (Ro := Ro2) (R := []) (xs := ([] : List UInt8)) F Try.underlying27 ty5 rfl (by omega) Try.underlying27 rfl S2 O2 rfl rfl (by simpa using l1) rfl fun Ro3 v3 w3 S3 O3 => ?_
    obtain ⟨oa3, cap3, rfl, lc3, bc3⟩ := O3.slice
    refine s_v (r_assign rfl) rfl rfl rfl <|
      s_end <|
      c_ret <| ?_
    exact f_retO (A := []) (R := []) S3 rfl rfl (.tmp rfl .nil) rfl O3

set_option maxRecDepth 20000 in
theorem Clone_strs (w : World) (m : Mem) (hm : Sub m w) {oa : Option Addr} {cap : Nat} {xs : List (List UInt8)} (F : Strs m oa cap xs) (hb : xs.length * 16 ≤ 140737488355328) :
    Calls Try.prog 45 #[.slice oa xs.length cap] w (RetO 1 16 RStr m w (xs)) := by
  have l1 := hb
  refine enterW (args := [.slice oa xs.length cap]) Try.func45 rfl Try.ntmps45 rfl rfl ?_
  have S := St.start hm
  refine c_region <|
    s_v (r_assign rfl) rfl rfl rfl <|
    s_end <|
    c_seq <|
    c_region <|
    s_v (r_move rfl) rfl rfl rfl <|
    s_v (r_eqnil rfl rfl Try.underlying45) rfl rfl rfl <|
    s_end <|
    c_if rfl (fun hc1 => ?_) (fun hc1 => ?_)
  · try simp only [decide_eq_true_eq, decide_eq_false_iff_not, Bool.and_eq_true, Bool.and_eq_false_imp, Bool.or_eq_true, Bool.or_eq_false_iff, Bool.not_eq_true', Bool.not_eq_false', Bool.not_not, Int.not_lt, Int.not_le] at hc1
    refine c_region <|
      s_v (r_assign rfl) rfl rfl rfl <|
      s_end <|
      c_ret <|
      e_thenR <| ?_
    have : xs = [] := by
      rcases F.row with h | ⟨b, off, arr, T, fz, h1, _⟩
      · exact h
      · simp [h1] at hc1
    subst this
    exact f_retO (A := []) (Ro := []) S rfl rfl (.tmp rfl .nil) rfl Own.nil
  · try simp only [decide_eq_true_eq, decide_eq_false_iff_not, Bool.and_eq_true, Bool.and_eq_false_imp, Bool.or_eq_true, Bool.or_eq_false_iff, Bool.not_eq_true', Bool.not_eq_false', Bool.not_not, Int.not_lt, Int.not_le] at hc1
    refine c_skip <|
      e_then <|
      c_region <|
      s_buildSlice (cs := []) (E := 9) S rfl (fun _ => by kernel_rfl) rfl fun w2 b2 hg2 S2 => ?_
    have S2 : St _ _ _ ([(b2, .cells #[] 9)] ++ []) _ _ := S2
    have O2 : Own 1 16 RStr m [(b2, .cells #[] 9)] (.slice (some ⟨b2, 0, none⟩) ([] : List (List UInt8)).length 0) [] := ⟨⟨[], OwnV.row rfl rfl (Nat.le_refl _) rfl (by omega), rfl⟩, by simp⟩
    obtain ⟨Ro2, eR2⟩ : ∃ r, r = [(b2, Obj.cells #[] 9)] := ⟨_, rfl⟩
    rw [← eR2] at S2 O2
    refine s_v (r_move rfl) rfl rfl rfl <|
      s_appS (A := []) (Ro := Ro2) (R := []) (xs := ([] : List (List UInt8))) F Try.underlying45 ty9 rfl (by omega) Try.underlying45 rfl S2 O2 rfl rfl (by simpa using l1) rfl fun Ro3 v3 w3 S3 O3 => ?_
    obtain ⟨oa3, cap3, rfl, lc3, bc3⟩ := O3.slice
    refine s_v (r_assign rfl) rfl rfl rfl <|
      s_end <|
      c_ret <| ?_
    exact f_retO (A := []) (R := []) S3 rfl rfl (.tmp rfl .nil) rfl O3

set_option maxRecDepth 20000 in
theorem Grow_nil (w : World) (m : Mem) (hm : Sub m w) (n2 : Nat) (hb : n2 ≤ 140737488355328) :
    Calls Try.prog 32 #[.slice none 0 0, .int .i64 (((n2 : Nat) : Int))] w (RetO 1 1 (Enc eByte) m w ([])) := by
  refine enterW (args := [.slice none 0 0, .int .i64 (((n2 : Nat) : Int))]) Try.func32 rfl Try.ntmps32 rfl rfl ?_
  have S := St.start hm
  refine c_region <|
    s_v (r_assign rfl) rfl rfl rfl <|
    s_end <|
    c_seq <|
    c_region <|
    s_v (r_move rfl) rfl rfl rfl <|
    s_v (r_ii rfl rfl b_lss) rfl rfl rfl <|
    s_end <|
    c_if rfl (fun hc1 => ?_) (fun hc1 => ?_)
  · try simp only [decide_eq_true_eq, decide_eq_false_iff_not, Bool.and_eq_true, Bool.and_eq_false_imp, Bool.or_eq_true, Bool.or_eq_false_iff, Bool.not_eq_true', Bool.not_eq_false', Bool.not_not, Int.not_lt, Int.not_le] at hc1
    exact never (by omega)
  · try simp only [decide_eq_true_eq, decide_eq_false_iff_not, Bool.and_eq_true, Bool.and_eq_false_imp, Bool.or_eq_true, Bool.or_eq_false_iff, Bool.not_eq_true', Bool.not_eq_false', Bool.not_not, Int.not_lt, Int.not_le] at hc1
    refine c_skip <|
      e_then <|
      c_seq <|
      c_region <|
      s_v (r_move rfl) rfl rfl rfl <|
      s_v (r_move rfl) rfl rfl rfl <|
      s_v (r_cap rfl Try.underlying27) rfl rfl rfl <|
      s_v (r_move rfl) rfl rfl rfl <|
      s_v (r_len rfl Try.underlying27) rfl rfl rfl <|
      s_v (r_ii rfl rfl (b_sub (by omega))) rfl rfl rfl <|
      s_v (r_ii rfl rfl (b_sub (by omega))) rfl rfl rfl <|
      s_v (r_assign rfl) rfl rfl rfl <|
      s_end <|
      c_region <|
      s_v (r_move rfl) rfl rfl rfl <|
      s_v (r_ii rfl rfl b_gtr) rfl rfl rfl <|
      s_end <|
      c_if rfl (fun hc2 => ?_) (fun hc2 => ?_)
    · try simp only [decide_eq_true_eq, decide_eq_false_iff_not, Bool.and_eq_true, Bool.and_eq_false_imp, Bool.or_eq_true, Bool.or_eq_false_iff, Bool.not_eq_true', Bool.not_eq_false', Bool.not_not, Int.not_lt, Int.not_le] at hc2
      refine c_region1 <|
        s_v (r_move rfl) rfl rfl rfl <|
        s_v (r_move rfl) rfl rfl rfl <|
        s_v (r_cap rfl Try.underlying27) rfl rfl rfl <|
        s_v (r_sliceH (h := 0) rfl rfl rfl (by omega) Try.underlying27 ty5) rfl rfl rfl <|
        s_v (r_move rfl) rfl rfl rfl <|
        s_zeros (A := []) (R := []) n2 Try.underlying27 ty5 rfl (by omega) Try.underlying3 S rfl rfl (by omega) (by omega) (by omega) rfl fun b9 arr9 cap9 w9 S9 hs9 hc9 hd9 => ?_
      refine s_v (r_move rfl) rfl rfl rfl <|
        s_v (r_len rfl Try.underlying27) rfl rfl rfl <|
        s_v (r_sliceH (h := 0) rfl rfl rfl (by omega) Try.underlying27 ty5) rfl rfl rfl <| ?_
      have O9 : Own 1 1 (Enc eByte) m [(b9, .cells arr9 5)] (.slice (some ⟨b9, 0, none⟩) ([] : List UInt8).length cap9) [] := ⟨⟨[], OwnV.row rfl hs9 (Nat.zero_le _) rfl hd9, rfl⟩, by simp⟩
      refine s_v (r_assign rfl) rfl rfl rfl <|
        s_nil <|
        e_then <|
        c_region <|
        s_v (r_move rfl) rfl rfl rfl <|
        s_v (r_assign rfl) rfl rfl rfl <|
        s_end <|
        c_ret <| ?_
      exact f_retO (A := []) (R := []) S9 rfl rfl (.tmp rfl .nil) rfl O9
    · try simp only [decide_eq_true_eq, decide_eq_false_iff_not, Bool.and_eq_true, Bool.and_eq_false_imp, Bool.or_eq_true, Bool.or_eq_false_iff, Bool.not_eq_true', Bool.not_eq_false', Bool.not_not, Int.not_lt, Int.not_le] at hc2
      refine c_skip <|
        e_then <|
        c_region <|
        s_v (r_move rfl) rfl rfl rfl <|
        s_v (r_assign rfl) rfl rfl rfl <|
        s_end <|
        c_ret <| ?_
      exact f_retO (A := []) (Ro := []) S rfl rfl (.tmp rfl .nil) rfl Own.nil

set_option maxRecDepth 20000 in
theorem Concat_bytes (w : World) (m : Mem) (hm : Sub m w) {oa : Option Addr} {cap : Nat} {ls : List (List UInt8)} (F : BysL m oa cap ls) (hb : ls.flatten.length ≤ 140737488355328) :
    Calls Try.prog 16 #[.slice oa ls.length cap] w (RetO 1 1 (Enc eByte) m w (ls.flatten)) := by
  have l1 := F.len1 (by omega)
  have hp := fun i h => flatten_take_succ (l := ls) (i := i) h
  have hq := fun i => flatten_take_le ls i
  refine enterW (args := [.slice oa ls.length cap]) Try.func16 rfl Try.ntmps16 rfl rfl ?_
  have S := St.start hm
  refine c_region <|
    s_v (r_assign rfl) rfl rfl rfl <|
    s_end <|
    c_region <|
    s_v (r_assign rfl) rfl rfl rfl <|
    s_end <|
    c_seq <|
    c_region <|
    s_v (r_move rfl) rfl rfl rfl <|
    s_v (r_len rfl Try.underlying66) rfl rfl rfl <|
    s_v (r_move rfl) rfl rfl rfl <|
    s_end <|
    c_block <|
    c_loop (fun k L w' => ∃ (i sz : Nat), L = [(0, .slice oa ls.length cap), (9, .slice oa ls.length cap), (3, .int .i64 (((sz : Nat) : Int))), (10, .int .i64 (((ls.length : Nat) : Int))), (11, .int .i64 (((i : Nat) : Int)))] ∧ k = ls.length - i ∧ St [] w m [] m w' ∧ i ≤ ls.length ∧ sz = (ls.take i).flatten.length) [0, 9, 3, 10, 11] rfl ⟨0, 0, rfl, rfl, S, Nat.zero_le _, rfl⟩ ?_
  rintro _ _ w1 ⟨i, sz, rfl, rfl, S1, hi, hsz⟩
  refine c_region <|
    s_v (r_ii rfl rfl b_lss) rfl rfl rfl <|
    s_end <|
    c_seq <|
    c_if rfl (fun hc2 => ?_) (fun hc2 => ?_)
  · try simp only [decide_eq_true_eq, decide_eq_false_iff_not, Bool.and_eq_true, Bool.and_eq_false_imp, Bool.or_eq_true, Bool.or_eq_false_iff, Bool.not_eq_true', Bool.not_eq_false', Bool.not_not, Int.not_lt, Int.not_le] at hc2
    refine c_skip <|
      e_then <|
      c_seq <|
      c_block <|
      c_region <| ?_
    obtain ⟨b3, o3, e3, cs3, l3, r3, c3⟩ := F.el i (by omega)
    obtain ⟨oe3, ce3, rfl, E3⟩ := r3
    subst e3
    refine s_v (r_indexAddr (i := i) rfl rfl (by omega) (by omega) Try.underlying66 ty27) rfl rfl rfl <|
      s_v (r_el1 rfl ty27 S1.mem c3) rfl rfl rfl <|
      s_v (r_assign rfl) rfl rfl rfl <|
      s_end <|
      c_region <|
      s_v (r_move rfl) rfl rfl rfl <|
      s_v (r_move rfl) rfl rfl rfl <|
      s_v (r_len rfl Try.underlying27) rfl rfl rfl <|
      s_v (r_ii rfl rfl (b_add (by have := hp i (by omega); have := hq (i + 1); omega))) rfl rfl rfl <|
      s_v (r_assign rfl) rfl rfl rfl <|
      s_end <|
      c_region <|
      s_v (r_move rfl) rfl rfl rfl <|
      s_v (r_ii rfl rfl b_lss) rfl rfl rfl <|
      s_end <|
      c_if rfl (fun hc4 => ?_) (fun hc4 => ?_)
    · try simp only [decide_eq_true_eq, decide_eq_false_iff_not, Bool.and_eq_true, Bool.and_eq_false_imp, Bool.or_eq_true, Bool.or_eq_false_iff, Bool.not_eq_true', Bool.not_eq_false', Bool.not_not, Int.not_lt, Int.not_le] at hc4
      exact never (by omega)
    · try simp only [decide_eq_true_eq, decide_eq_false_iff_not, Bool.and_eq_true, Bool.and_eq_false_imp, Bool.or_eq_true, Bool.or_eq_false_iff, Bool.not_eq_true', Bool.not_eq_false', Bool.not_not, Int.not_lt, Int.not_le] at hc4
      refine c_skip <|
        e_blk <|
        e_then <|
        c_region1 <|
        s_v (r_ii rfl rfl (b_add (by omega))) rfl rfl rfl <|
        s_v (r_move rfl) rfl rfl rfl <|
        s_nil <|
        e_then <| ?_
      have hs1 := flatten_take_succ (l := ls) (i := i) (by omega)
      refine e_again (k' := ls.length - (i + 1)) [0, 9, 3, 10, 11] (by omega) rfl ⟨i + 1, sz + ls[i].length, rfl, rfl, S1, by omega, by rw [hsz]; omega⟩ 
  · try simp only [decide_eq_true_eq, decide_eq_false_iff_not, Bool.and_eq_true, Bool.and_eq_false_imp, Bool.or_eq_true, Bool.or_eq_false_iff, Bool.not_eq_true', Bool.not_eq_false', Bool.not_not, Int.not_lt, Int.not_le] at hc2
    refine c_exit <|
      e_thenX <|
      e_thenX <|
      e_blkX <|
      e_then <|
      c_region <|
      s_v (r_move rfl) rfl rfl rfl <|
      s_callO (A := []) (R := []) S1 rfl call32 (Grow_nil _ _ S1.mem sz (by have := hq i; omega)) rfl rfl fun Ro5 v5 w5 S5 O5 => ?_
    obtain ⟨oa5, cap5, rfl, lc5, bc5⟩ := O5.slice
    refine s_v (r_assign rfl) rfl rfl rfl <|
      s_end <|
      c_seq <|
      c_region <|
      s_v (r_move rfl) rfl rfl rfl <|
      s_v (r_len rfl Try.underlying66) rfl rfl rfl <|
      s_v (r_move rfl) rfl rfl rfl <|
      s_end <|
      c_block <|
      c_loop (fun k L w' => ∃ (i : Nat) (Roa : Boxes) (ooa : Option Addr) (coa : Nat) (acc : List UInt8), L = [(0, .slice oa ls.length cap), (25, .slice oa ls.length cap), (26, .int .i64 (((ls.length : Nat) : Int))), (27, .int .i64 (((i : Nat) : Int))), (6, .slice ooa acc.length coa)] ∧ k = ls.length - i ∧ St [] w m (Roa ++ []) m w' ∧ Own 1 1 (Enc eByte) m Roa (.slice ooa acc.length coa) acc ∧ i ≤ ls.length ∧ acc = (ls.take i).flatten) [0, 25, 26, 27, 6] rfl ⟨0, Ro5, oa5, cap5, ([] : List UInt8), rfl, rfl, S5, O5, Nat.zero_le _, by simp⟩ ?_
    rintro _ _ w6 ⟨i, Roa, ooa, coa, acc, rfl, rfl, S6, Oa, hi2, hacc⟩
    refine c_region <|
      s_v (r_ii rfl rfl b_lss) rfl rfl rfl <|
      s_end <|
      c_seq <|
      c_if rfl (fun hc7 => ?_) (fun hc7 => ?_)
    · try simp only [decide_eq_true_eq, decide_eq_false_iff_not, Bool.and_eq_true, Bool.and_eq_false_imp, Bool.or_eq_true, Bool.or_eq_false_iff, Bool.not_eq_true', Bool.not_eq_false', Bool.not_not, Int.not_lt, Int.not_le] at hc7
      refine c_skip <|
        e_then <|
        c_seq <|
        c_block <|
        c_region <| ?_
      obtain ⟨b8, o8, e8, cs8, l8, r8, c8⟩ := F.el i (by omega)
      obtain ⟨oe8, ce8, rfl, E8⟩ := r8
      subst e8
      refine s_v (r_indexAddr (i := i) rfl rfl (by omega) (by omega) Try.underlying66 ty27) rfl rfl rfl <|
        s_v (r_el1 rfl ty27 S6.mem c8) rfl rfl rfl <|
        s_v (r_assign rfl) rfl rfl rfl <|
        s_end <|
        c_region1 <|
        s_v (r_move rfl) rfl rfl rfl <|
        s_v (r_move rfl) rfl rfl rfl <|
        s_appS (A := []) (Ro := Roa) (R := []) (xs := acc) E8 Try.underlying27 ty5 rfl (by omega) Try.underlying27 rfl S6 Oa rfl rfl (by have := hp i (by omega); have := hq (i + 1); rw [hacc]; omega) rfl fun Ro9 v9 w9 S9 O9 => ?_
      obtain ⟨oa9, cap9, rfl, lc9, bc9⟩ := O9.slice
      refine s_v (r_assign rfl) rfl rfl rfl <|
        s_nil <|
        e_blk <|
        e_then <|
        c_region1 <|
        s_v (r_ii rfl rfl (b_add (by omega))) rfl rfl rfl <|
        s_v (r_move rfl) rfl rfl rfl <|
        s_nil <|
        e_then <| ?_
      refine e_again (k' := ls.length - (i + 1)) [0, 25, 26, 27, 6] (by omega) rfl ⟨i + 1, Ro9, oa9, cap9, (acc ++ ls[i]), rfl, rfl, S9, O9, by omega, by rw [hacc, flatten_snoc (by omega)]⟩ 
    · try simp only [decide_eq_true_eq, decide_eq_false_iff_not, Bool.and_eq_true, Bool.and_eq_false_imp, Bool.or_eq_true, Bool.or_eq_false_iff, Bool.not_eq_true', Bool.not_eq_false', Bool.not_not, Int.not_lt, Int.not_le] at hc7
      refine c_exit <|
        e_thenX <|
        e_thenX <|
        e_blkX <|
        e_then <|
        c_region <|
        s_v (r_move rfl) rfl rfl rfl <|
        s_v (r_assign rfl) rfl rfl rfl <|
        s_end <|
        c_ret <| ?_
      obtain rfl : acc = ls.flatten := by rw [hacc, List.take_of_length_le (by omega)]
      exact f_retO (A := []) (R := []) S6 rfl rfl (.tmp rfl .nil) rfl Oa

end Go.Proofs.Ytffljdmmambdjaa
