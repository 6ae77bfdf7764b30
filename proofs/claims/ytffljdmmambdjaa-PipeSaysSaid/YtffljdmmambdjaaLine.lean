/- What functions of the program come to, one behind the other (Line): in every world, upon the conditions that each theorem names. -/
import Derived.Test.YtffljdmmambdjaaSl
set_option linter.unusedVariables false
set_option linter.unusedSimpArgs false
namespace Go.Proofs.Ytffljdmmambdjaa
open Gw Go.Proofs Go.RowKit
set_option maxRecDepth 20000 in
theorem line_Put (w : World) (m : Mem) (hm : Sub m w) {oa : Option Addr} {cap : Nat} {l : List (List UInt8)} (F : Strs m oa cap l) (hb : (put l).length ≤ 140737488355328) :
    Calls Try.prog 53 #[.slice oa l.length cap] w (Ret [] m w fun m' v => ∃ oa' cap', v = .slice oa' (put l).length cap' ∧ Bys m' oa' cap' (put l)) := by
  have l1 := F.len1 (by omega)
  have hp := fun i h => put_take_succ (l := l) (i := i) h
  have hq := fun i => put_take_le l i
  refine enterW (args := [.slice oa l.length cap]) Try.func53 rfl Try.ntmps53 rfl rfl ?_
  have S := St.start hm
  refine c_region <|
    s_v (r_assign rfl) rfl rfl rfl <|
    s_end <|
    c_region <|
    s_v (r_assign rfl) rfl rfl rfl <|
    s_end <|
    c_seq <|
    c_region <|
    s_v (r_move rfl) rfl rfl rfl <|
    s_v (r_len rfl Try.underlying45) rfl rfl rfl <|
    s_v (r_move rfl) rfl rfl rfl <|
    s_end <|
    c_block <|
    c_loop (fun k L w' => ∃ (i : Nat) (Roa : Boxes) (ooa : Option Addr) (coa : Nat) (acc : List UInt8), L = [(0, .slice oa l.length cap), (6, .slice oa l.length cap), (7, .int .i64 (((l.length : Nat) : Int))), (8, .int .i64 (((i : Nat) : Int))), (3, .slice ooa acc.length coa)] ∧ k = l.length - i ∧ St [] w m (Roa ++ []) m w' ∧ Own 1 1 (Enc eByte) m Roa (.slice ooa acc.length coa) acc ∧ i ≤ l.length ∧ acc = put (l.take i)) [0, 6, 7, 8, 3] rfl ⟨0, [], none, 0, [], rfl, rfl, S, Own.nil, Nat.zero_le _, rfl⟩ ?_
  rintro _ _ w1 ⟨i, Roa, ooa, coa, acc, rfl, rfl, S1, Oa, hi, hacc⟩
  refine c_region <|
    s_v (r_ii rfl rfl b_lss) rfl rfl rfl <|
    s_end <|
    c_seq <|
    c_if rfl (fun hc2 => ?_) (fun hc2 => ?_)
  · try simp only [decide_eq_true_eq, decide_eq_false_iff_not, Bool.and_eq_true, Bool.and_eq_false_imp, Bool.or_eq_true, Bool.or_eq_false_iff, Bool.not_eq_true', Bool.not_eq_false', Bool.not_not, Int.not_lt, Int.not_le] at hc2
    refine c_skip <|
      e_then <|
      c_seq <|
      c_block <|
      c_region <| ?_
    obtain ⟨b3, o3, e3, cs3, l3, r3, c3⟩ := F.el i (by omega)
    obtain ⟨rfl, g3⟩ := r3
    subst e3
    refine s_v (r_indexAddr (i := i) rfl rfl (by omega) (by omega) Try.underlying45 ty9) rfl rfl rfl <|
      s_v (r_el1 rfl ty9 S1.mem c3) rfl rfl rfl <|
      s_v (r_assign rfl) rfl rfl rfl <|
      s_end <|
      c_region1 <|
      s_v (r_move rfl) rfl rfl rfl <|
      s_v (r_move rfl) rfl rfl rfl <|
      s_appStr (A := []) (Ro := Roa) (R := []) (xs := acc) Try.underlying27 ty5 rfl Try.underlying9 S1 Oa rfl rfl (by have := hp i (by omega); have := hq (i + 1); rw [hacc]; omega) rfl fun Ro4 v4 w4 S4 O4 => ?_
    obtain ⟨oa4, cap4, rfl, lc4, bc4⟩ := O4.slice
    refine s_app1 (A := []) (Ro := Ro4) (R := []) (xs := (acc ++ l[i])) [.int .u8 10] (10) Try.underlying27 ty5 rfl (by omega) S4 O4 rfl (fun _ => rfl) rfl (fun _ => by kernel_rfl) rfl (rfl) (by have := hp i (by omega); have := hq (i + 1); rw [hacc]; simp; omega) rfl rfl fun Ro5 v5 w5 u5 S5 O5 => ?_
    obtain ⟨oa5, cap5, rfl, lc5, bc5⟩ := O5.slice
    refine s_v (r_assign rfl) rfl rfl rfl <|
      s_nil <|
      e_blk <|
      e_then <|
      c_region1 <|
      s_v (r_ii rfl rfl (b_add (by omega))) rfl rfl rfl <|
      s_v (r_move rfl) rfl rfl rfl <|
      s_nil <|
      e_then <| ?_
    refine e_again (k' := l.length - (i + 1)) [0, 6, 7, 8, 3] (by omega) rfl ⟨i + 1, Ro5, oa5, cap5, ((acc ++ l[i]) ++ [(10)]), rfl, rfl, S5, O5, by omega, by rw [hacc, put_snoc (by omega)]⟩ 
  · try simp only [decide_eq_true_eq, decide_eq_false_iff_not, Bool.and_eq_true, Bool.and_eq_false_imp, Bool.or_eq_true, Bool.or_eq_false_iff, Bool.not_eq_true', Bool.not_eq_false', Bool.not_not, Int.not_lt, Int.not_le] at hc2
    refine c_exit <|
      e_thenX <|
      e_thenX <|
      e_blkX <|
      e_then <|
      c_region <|
      s_v (r_move rfl) rfl rfl rfl <|
      s_v (r_assign rfl) rfl rfl rfl <|
      s_end <|
      c_ret <| ?_
    obtain ⟨oa6, cap6, m6, e6, le6, S6, F6⟩ := Own.stay (A := []) (R := []) Oa S1 (by simp)
    injection e6 with e6a e6b e6c; subst e6a e6c
    replace F := F.up le6; replace Oa := Oa.up le6
    refine f_ret S6 rfl (.tmp rfl .nil) fun hle => ?_
    obtain rfl : acc = put l := by rw [hacc, List.take_of_length_le (by omega)]
    exact ⟨_, _, rfl, F6.up hle⟩

end Go.Proofs.Ytffljdmmambdjaa
