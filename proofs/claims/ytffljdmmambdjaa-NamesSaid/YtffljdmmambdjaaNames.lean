/- What functions of the program come to, one behind the other (Names): in every world, upon the conditions that each theorem names. -/
import Derived.Test.YtffljdmmambdjaaSl
set_option linter.unusedVariables false
set_option linter.unusedSimpArgs false
namespace Go.Proofs.Ytffljdmmambdjaa
open Gw Go.Proofs Go.RowKit
theorem errs_at : ∀ (i : Nat) (h : i < ([0, 1, 2, 3, 4, 5, 6, 7, 8] : List Int).length), ([0, 1, 2, 3, 4, 5, 6, 7, 8] : List Int)[i] = (i : Int) := by decide
set_option maxRecDepth 20000 in
theorem law_Names (w : World) (m : Mem) (hm : Sub m w)  :
    Calls Try.prog 3 #[] w (RetV [] w (.bool true)) := by
  refine enterW (args := []) Try.func3 rfl Try.ntmps3 rfl rfl ?_
  have S := St.start hm
  refine c_region <|
    s_v (r_assign rfl) rfl rfl rfl <|
    s_end <|
    c_region <|
    s_build_stay (E := 22) (k := 1) (e := 8) (Rel := RInt) [.int .i64 0, .int .i64 1, .int .i64 2, .int .i64 3, .int .i64 4, .int .i64 5, .int .i64 6, .int .i64 7, .int .i64 8] ([0, 1, 2, 3, 4, 5, 6, 7, 8] : List Int) S rfl (fun _ => by kernel_rfl) ⟨rfl, ⟨rfl, ⟨by omega, by omega⟩⟩, ⟨rfl, ⟨rfl, ⟨by omega, by omega⟩⟩, ⟨rfl, ⟨rfl, ⟨by omega, by omega⟩⟩, ⟨rfl, ⟨rfl, ⟨by omega, by omega⟩⟩, ⟨rfl, ⟨rfl, ⟨by omega, by omega⟩⟩, ⟨rfl, ⟨rfl, ⟨by omega, by omega⟩⟩, ⟨rfl, ⟨rfl, ⟨by omega, by omega⟩⟩, ⟨rfl, ⟨rfl, ⟨by omega, by omega⟩⟩, ⟨rfl, ⟨rfl, ⟨by omega, by omega⟩⟩, rfl⟩⟩⟩⟩⟩⟩⟩⟩⟩ rfl (by simp) (by omega) rfl fun w1 m1 b1 le1 S1 F1 => ?_
  refine s_v (r_assign rfl) rfl rfl rfl <|
    s_end <|
    c_seq <|
    c_region <|
    s_v (r_move rfl) rfl rfl rfl <|
    s_v (r_len rfl Try.underlying23) rfl rfl rfl <|
    s_v (r_move rfl) rfl rfl rfl <|
    s_end <|
    c_block <|
    c_loop (fun k L w' => ∃ (i : Nat), L = [(7, .slice (some ⟨b1, 0, none⟩) (([0, 1, 2, 3, 4, 5, 6, 7, 8] : List Int).length) (([0, 1, 2, 3, 4, 5, 6, 7, 8] : List Int).length)), (8, .int .i64 (9 : Nat)), (9, .int .i64 (((i : Nat) : Int)))] ∧ k = 9 - i ∧ St [] w m [] m1 w' ∧ i ≤ 9) [7, 8, 9] rfl ⟨0, rfl, rfl, S1, by omega⟩ ?_
  rintro _ _ w2 ⟨i, rfl, rfl, S2, hi⟩
  refine c_region <|
    s_v (r_ii rfl rfl b_lss) rfl rfl rfl <|
    s_end <|
    c_seq <|
    c_if rfl (fun hc3 => ?_) (fun hc3 => ?_)
  · try simp only [decide_eq_true_eq, decide_eq_false_iff_not, Bool.and_eq_true, Bool.and_eq_false_imp, Bool.or_eq_true, Bool.or_eq_false_iff, Bool.not_eq_true', Bool.not_eq_false', Bool.not_not, Int.not_lt, Int.not_le] at hc3
    refine c_skip <|
      e_then <|
      c_seq <|
      c_block <|
      c_region <|
      s_v (r_move rfl) rfl rfl rfl <| ?_
    obtain ⟨b4, o4, e4, cs4, l4, r4, c4⟩ := F1.el i (by simp; omega)
    obtain ⟨rfl, g4⟩ := r4
    have g4a := g4.1
    have g4b := g4.2
    injection e4 with e4; injection e4 with e4a e4b; subst e4a e4b
    refine s_v (r_indexAddr (i := i) rfl rfl (by omega) (by simp; omega) Try.underlying23 ty22) rfl rfl rfl <|
      s_v (r_el1 rfl ty22 S2.mem c4) rfl rfl rfl <|
      s_v (r_assign rfl) rfl rfl rfl <|
      s_v (r_assign rfl) rfl rfl rfl <|
      s_end <|
      c_region <|
      s_v (r_move rfl) rfl rfl rfl <|
      s_v (r_move rfl) rfl rfl rfl <|
      s_v (r_ii rfl rfl b_neq) rfl rfl rfl <|
      s_end <|
      c_if rfl (fun hc5 => ?_) (fun hc5 => ?_)
    · try simp only [decide_eq_true_eq, decide_eq_false_iff_not, Bool.and_eq_true, Bool.and_eq_false_imp, Bool.or_eq_true, Bool.or_eq_false_iff, Bool.not_eq_true', Bool.not_eq_false', Bool.not_not, Int.not_lt, Int.not_le] at hc5
      exact never (by have := errs_at i (by simp; omega); omega)
    · try simp only [decide_eq_true_eq, decide_eq_false_iff_not, Bool.and_eq_true, Bool.and_eq_false_imp, Bool.or_eq_true, Bool.or_eq_false_iff, Bool.not_eq_true', Bool.not_eq_false', Bool.not_not, Int.not_lt, Int.not_le] at hc5
      refine c_skip <|
        e_blk <|
        e_then <|
        c_region1 <|
        s_v (r_ii rfl rfl (b_add (by omega))) rfl rfl rfl <|
        s_v (r_move rfl) rfl rfl rfl <|
        s_nil <|
        e_then <| ?_
      refine e_again (k' := 9 - (i + 1)) [7, 8, 9] (by omega) rfl ⟨i + 1, rfl, rfl, S2, by omega⟩ 
  · try simp only [decide_eq_true_eq, decide_eq_false_iff_not, Bool.and_eq_true, Bool.and_eq_false_imp, Bool.or_eq_true, Bool.or_eq_false_iff, Bool.not_eq_true', Bool.not_eq_false', Bool.not_not, Int.not_lt, Int.not_le] at hc3
    refine c_exit <|
      e_thenX <|
      e_thenX <|
      e_blkX <|
      e_then <|
      c_region <|
      s_build_stay (E := 3) (k := 1) (e := 8) (Rel := RInt) [.int .i64 4000, .int .i64 12, .int .i64 1000, .int .i64 6, .int .i64 4, .int .i64 6, .int .i64 12, .int .i64 8000, .int .i64 5, .int .i64 60, .int .i64 1000, .int .i64 40000] ([4000, 12, 1000, 6, 4, 6, 12, 8000, 5, 60, 1000, 40000] : List Int) S2 rfl (fun _ => by kernel_rfl) ⟨rfl, ⟨rfl, ⟨by omega, by omega⟩⟩, ⟨rfl, ⟨rfl, ⟨by omega, by omega⟩⟩, ⟨rfl, ⟨rfl, ⟨by omega, by omega⟩⟩, ⟨rfl, ⟨rfl, ⟨by omega, by omega⟩⟩, ⟨rfl, ⟨rfl, ⟨by omega, by omega⟩⟩, ⟨rfl, ⟨rfl, ⟨by omega, by omega⟩⟩, ⟨rfl, ⟨rfl, ⟨by omega, by omega⟩⟩, ⟨rfl, ⟨rfl, ⟨by omega, by omega⟩⟩, ⟨rfl, ⟨rfl, ⟨by omega, by omega⟩⟩, ⟨rfl, ⟨rfl, ⟨by omega, by omega⟩⟩, ⟨rfl, ⟨rfl, ⟨by omega, by omega⟩⟩, ⟨rfl, ⟨rfl, ⟨by omega, by omega⟩⟩, rfl⟩⟩⟩⟩⟩⟩⟩⟩⟩⟩⟩⟩ rfl (by simp) (by omega) rfl fun w6 m6 b6 le6 S6 F6 => ?_
    replace F1 := F1.up le6
    refine s_v (r_assign rfl) rfl rfl rfl <|
      s_end <|
      c_region <|
      s_build_stay (E := 3) (k := 1) (e := 8) (Rel := RInt) [.int .i64 1, .int .i64 2, .int .i64 3, .int .i64 4, .int .i64 5, .int .i64 6, .int .i64 7, .int .i64 8, .int .i64 9, .int .i64 10, .int .i64 1, .int .i64 2, .int .i64 3, .int .i64 4, .int .i64 1, .int .i64 2, .int .i64 3, .int .i64 4, .int .i64 5] ([1, 2, 3, 4, 5, 6, 7, 8, 9, 10, 1, 2, 3, 4, 1, 2, 3, 4, 5] : List Int) S6 rfl (fun _ => by kernel_rfl) ⟨rfl, ⟨rfl, ⟨by omega, by omega⟩⟩, ⟨rfl, ⟨rfl, ⟨by omega, by omega⟩⟩, ⟨rfl, ⟨rfl, ⟨by omega, by omega⟩⟩, ⟨rfl, ⟨rfl, ⟨by omega, by omega⟩⟩, ⟨rfl, ⟨rfl, ⟨by omega, by omega⟩⟩, ⟨rfl, ⟨rfl, ⟨by omega, by omega⟩⟩, ⟨rfl, ⟨rfl, ⟨by omega, by omega⟩⟩, ⟨rfl, ⟨rfl, ⟨by omega, by omega⟩⟩, ⟨rfl, ⟨rfl, ⟨by omega, by omega⟩⟩, ⟨rfl, ⟨rfl, ⟨by omega, by omega⟩⟩, ⟨rfl, ⟨rfl, ⟨by omega, by omega⟩⟩, ⟨rfl, ⟨rfl, ⟨by omega, by omega⟩⟩, ⟨rfl, ⟨rfl, ⟨by omega, by omega⟩⟩, ⟨rfl, ⟨rfl, ⟨by omega, by omega⟩⟩, ⟨rfl, ⟨rfl, ⟨by omega, by omega⟩⟩, ⟨rfl, ⟨rfl, ⟨by omega, by omega⟩⟩, ⟨rfl, ⟨rfl, ⟨by omega, by omega⟩⟩, ⟨rfl, ⟨rfl, ⟨by omega, by omega⟩⟩, ⟨rfl, ⟨rfl, ⟨by omega, by omega⟩⟩, rfl⟩⟩⟩⟩⟩⟩⟩⟩⟩⟩⟩⟩⟩⟩⟩⟩⟩⟩⟩ rfl (by simp) (by omega) rfl fun w7 m7 b7 le7 S7 F7 => ?_
    replace F1 := F1.up le7; replace F6 := F6.up le7
    refine s_v (r_assign rfl) rfl rfl rfl <|
      s_end <|
      c_region <|
      s_v (r_move rfl) rfl rfl rfl <|
      s_build_stay (E := 3) (k := 1) (e := 8) (Rel := RInt) [.int .i64 4000, .int .i64 12, .int .i64 1000, .int .i64 6, .int .i64 4, .int .i64 6, .int .i64 12, .int .i64 8000, .int .i64 5, .int .i64 60, .int .i64 1000, .int .i64 40000] ([4000, 12, 1000, 6, 4, 6, 12, 8000, 5, 60, 1000, 40000] : List Int) S7 rfl (fun _ => by kernel_rfl) ⟨rfl, ⟨rfl, ⟨by omega, by omega⟩⟩, ⟨rfl, ⟨rfl, ⟨by omega, by omega⟩⟩, ⟨rfl, ⟨rfl, ⟨by omega, by omega⟩⟩, ⟨rfl, ⟨rfl, ⟨by omega, by omega⟩⟩, ⟨rfl, ⟨rfl, ⟨by omega, by omega⟩⟩, ⟨rfl, ⟨rfl, ⟨by omega, by omega⟩⟩, ⟨rfl, ⟨rfl, ⟨by omega, by omega⟩⟩, ⟨rfl, ⟨rfl, ⟨by omega, by omega⟩⟩, ⟨rfl, ⟨rfl, ⟨by omega, by omega⟩⟩, ⟨rfl, ⟨rfl, ⟨by omega, by omega⟩⟩, ⟨rfl, ⟨rfl, ⟨by omega, by omega⟩⟩, ⟨rfl, ⟨rfl, ⟨by omega, by omega⟩⟩, rfl⟩⟩⟩⟩⟩⟩⟩⟩⟩⟩⟩⟩ rfl (by simp) (by omega) rfl fun w8 m8 b8 le8 S8 F8 => ?_
    replace F1 := F1.up le8; replace F6 := F6.up le8; replace F7 := F7.up le8
    refine s_callV S8 rfl call8 (Equal_ints _ _ S8.mem F6 F8) rfl rfl fun w9 S10 =>
      s_v (r_move rfl) rfl rfl rfl <| ?_
    refine jm4 S10 (L' := [(27, .bool ((decide (([4000, 12, 1000, 6, 4, 6, 12, 8000, 5, 60, 1000, 40000] : List Int) = ([4000, 12, 1000, 6, 4, 6, 12, 8000, 5, 60, 1000, 40000] : List Int)) && decide (([1, 2, 3, 4, 5, 6, 7, 8, 9, 10, 1, 2, 3, 4, 1, 2, 3, 4, 5] : List Int) = ([1, 2, 3, 4, 5, 6, 7, 8, 9, 10, 1, 2, 3, 4, 1, 2, 3, 4, 5] : List Int))))), (7, .slice (some ⟨b1, 0, none⟩) (([0, 1, 2, 3, 4, 5, 6, 7, 8] : List Int).length) (([0, 1, 2, 3, 4, 5, 6, 7, 8] : List Int).length)), (8, .int .i64 (9 : Nat)), (9, .int .i64 (((i : Nat) : Int))), (10, .bool (decide (((i : Nat) : Int) < (9 : Nat)))), (4, .slice (some ⟨b6, 0, none⟩) (([4000, 12, 1000, 6, 4, 6, 12, 8000, 5, 60, 1000, 40000] : List Int).length) (([4000, 12, 1000, 6, 4, 6, 12, 8000, 5, 60, 1000, 40000] : List Int).length)), (5, .slice (some ⟨b7, 0, none⟩) (([1, 2, 3, 4, 5, 6, 7, 8, 9, 10, 1, 2, 3, 4, 1, 2, 3, 4, 5] : List Int).length) (([1, 2, 3, 4, 5, 6, 7, 8, 9, 10, 1, 2, 3, 4, 1, 2, 3, 4, 5] : List Int).length))]) ?KK12 (fun K12 => ?BK12)
    case BK12 =>
      refine w_bool (t := 23) rfl (fun hc110 => ?_) (fun hc110 => ?_)
      · have hc11 := hc110
        try simp only [decide_eq_true_eq, decide_eq_false_iff_not, Bool.and_eq_true, Bool.and_eq_false_imp, Bool.or_eq_true, Bool.or_eq_false_iff, Bool.not_eq_true', Bool.not_eq_false', Bool.not_not, Int.not_lt, Int.not_le] at hc11
        refine s_on rfl rfl rfl <|
          s_v (r_move rfl) rfl rfl rfl <|
          s_on rfl rfl rfl <|
          s_build_stay (E := 3) (k := 1) (e := 8) (Rel := RInt) [.int .i64 1, .int .i64 2, .int .i64 3, .int .i64 4, .int .i64 5, .int .i64 6, .int .i64 7, .int .i64 8, .int .i64 9, .int .i64 10, .int .i64 1, .int .i64 2, .int .i64 3, .int .i64 4, .int .i64 1, .int .i64 2, .int .i64 3, .int .i64 4, .int .i64 5] ([1, 2, 3, 4, 5, 6, 7, 8, 9, 10, 1, 2, 3, 4, 1, 2, 3, 4, 5] : List Int) S10 rfl (fun _ => by kernel_rfl) ⟨rfl, ⟨rfl, ⟨by omega, by omega⟩⟩, ⟨rfl, ⟨rfl, ⟨by omega, by omega⟩⟩, ⟨rfl, ⟨rfl, ⟨by omega, by omega⟩⟩, ⟨rfl, ⟨rfl, ⟨by omega, by omega⟩⟩, ⟨rfl, ⟨rfl, ⟨by omega, by omega⟩⟩, ⟨rfl, ⟨rfl, ⟨by omega, by omega⟩⟩, ⟨rfl, ⟨rfl, ⟨by omega, by omega⟩⟩, ⟨rfl, ⟨rfl, ⟨by omega, by omega⟩⟩, ⟨rfl, ⟨rfl, ⟨by omega, by omega⟩⟩, ⟨rfl, ⟨rfl, ⟨by omega, by omega⟩⟩, ⟨rfl, ⟨rfl, ⟨by omega, by omega⟩⟩, ⟨rfl, ⟨rfl, ⟨by omega, by omega⟩⟩, ⟨rfl, ⟨rfl, ⟨by omega, by omega⟩⟩, ⟨rfl, ⟨rfl, ⟨by omega, by omega⟩⟩, ⟨rfl, ⟨rfl, ⟨by omega, by omega⟩⟩, ⟨rfl, ⟨rfl, ⟨by omega, by omega⟩⟩, ⟨rfl, ⟨rfl, ⟨by omega, by omega⟩⟩, ⟨rfl, ⟨rfl, ⟨by omega, by omega⟩⟩, ⟨rfl, ⟨rfl, ⟨by omega, by omega⟩⟩, rfl⟩⟩⟩⟩⟩⟩⟩⟩⟩⟩⟩⟩⟩⟩⟩⟩⟩⟩⟩ rfl (by simp) (by omega) rfl fun w13 m13 b13 le13 S13 F13 => ?_
        replace F1 := F1.up le13; replace F6 := F6.up le13; replace F7 := F7.up le13; replace F8 := F8.up le13
        refine s_on rfl rfl rfl <|
          s_callV S13 rfl call8 (Equal_ints _ _ S13.mem F7 F13) rfl rfl fun w14 S15 =>
          s_v (r_pickT rfl rfl rfl) rfl rfl rfl <| ?_
        refine w_eq (t := 27) (v := .bool ((decide (([4000, 12, 1000, 6, 4, 6, 12, 8000, 5, 60, 1000, 40000] : List Int) = ([4000, 12, 1000, 6, 4, 6, 12, 8000, 5, 60, 1000, 40000] : List Int)) && decide (([1, 2, 3, 4, 5, 6, 7, 8, 9, 10, 1, 2, 3, 4, 1, 2, 3, 4, 5] : List Int) = ([1, 2, 3, 4, 5, 6, 7, 8, 9, 10, 1, 2, 3, 4, 1, 2, 3, 4, 5] : List Int))))) rfl (by rw [hc110]; first | simp only [Bool.true_and, Bool.false_and, Bool.true_or, Bool.false_or] | rfl) ?_
        exact w_only [27, 7, 8, 9, 10, 4, 5] rfl (K12 _ _ (Mem.Le.trans le13 (Mem.Le.refl _)) S15)
      · have hc11 := hc110
        try simp only [decide_eq_true_eq, decide_eq_false_iff_not, Bool.and_eq_true, Bool.and_eq_false_imp, Bool.or_eq_true, Bool.or_eq_false_iff, Bool.not_eq_true', Bool.not_eq_false', Bool.not_not, Int.not_lt, Int.not_le] at hc11
        refine s_off rfl rfl rfl rfl rfl rfl <|
          s_off rfl rfl rfl rfl rfl rfl <|
          s_off rfl rfl rfl rfl rfl rfl <|
          s_v (r_pickF rfl rfl rfl) rfl rfl rfl <| ?_
        refine w_eq (t := 27) (v := .bool ((decide (([4000, 12, 1000, 6, 4, 6, 12, 8000, 5, 60, 1000, 40000] : List Int) = ([4000, 12, 1000, 6, 4, 6, 12, 8000, 5, 60, 1000, 40000] : List Int)) && decide (([1, 2, 3, 4, 5, 6, 7, 8, 9, 10, 1, 2, 3, 4, 1, 2, 3, 4, 5] : List Int) = ([1, 2, 3, 4, 5, 6, 7, 8, 9, 10, 1, 2, 3, 4, 1, 2, 3, 4, 5] : List Int))))) rfl (by rw [hc110]; first | simp only [Bool.true_and, Bool.false_and, Bool.true_or, Bool.false_or] | rfl) ?_
        exact w_only [27, 7, 8, 9, 10, 4, 5] rfl (K12 _ _ (Mem.Le.refl _) S10)
    intro w16 m16 le16 S16
    replace F1 := F1.up le16; replace F6 := F6.up le16; replace F7 := F7.up le16; replace F8 := F8.up le16
    refine s_v (r_assign rfl) rfl rfl rfl <|
      s_end <|
      c_ret <|
      f_retV S16 rfl (.tmp rfl .nil) ?_
    simp only [packV]; congr 1

end Go.Proofs.Ytffljdmmambdjaa
