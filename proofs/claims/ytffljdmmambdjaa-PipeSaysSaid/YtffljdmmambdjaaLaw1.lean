/- What functions of the program come to, one behind the other (Law1): in every world, upon the conditions that each theorem names. -/
import Derived.Test.YtffljdmmambdjaaPipe
set_option linter.unusedVariables false
set_option linter.unusedSimpArgs false
namespace Go.Proofs.Ytffljdmmambdjaa
open Gw Go.Proofs Go.RowKit
/-- The place in a row of n, whatever the number. -/
def atI (k n : Int) : Int := if k.tmod n < 0 then k.tmod n + n else k.tmod n
theorem atI_le {k n : Int} (h : 0 < n) : 0 ≤ atI k n ∧ atI k n < n := by
  unfold atI
  have h1 := Int.lt_tmod_of_pos k h
  have h2 := Int.tmod_lt_of_pos k h
  split <;> omega

set_option maxRecDepth 20000 in
theorem law_at (w : World) (m : Mem) (hm : Sub m w) {k n : Int} (hk : I64 k) (hn : 1 ≤ n) (hn2 : n ≤ 1000000) :
    Calls Try.prog 11 #[.int .i64 k, .int .i64 n] w (RetV [] w (.int .i64 (atI k n))) := by
  have h1 := Int.lt_tmod_of_pos k (show 0 < n by omega)
  have h2 := Int.tmod_lt_of_pos k (show 0 < n by omega)
  refine enterW (args := [.int .i64 k, .int .i64 n]) Try.func11 rfl Try.ntmps11 rfl rfl ?_
  have S := St.start hm
  refine c_region <|
    s_v (r_assign rfl) rfl rfl rfl <|
    s_end <|
    c_region <|
    s_v (r_move rfl) rfl rfl rfl <|
    s_v (r_move rfl) rfl rfl rfl <|
    s_v (r_ii rfl rfl (b_rem (by omega))) rfl rfl rfl <|
    s_v (r_assign rfl) rfl rfl rfl <|
    s_end <|
    c_seq <|
    c_region <|
    s_v (r_move rfl) rfl rfl rfl <|
    s_v (r_ii rfl rfl b_lss) rfl rfl rfl <|
    s_end <|
    c_if rfl (fun hc1 => ?_) (fun hc1 => ?_)
  · try simp only [decide_eq_true_eq, decide_eq_false_iff_not, Bool.and_eq_true, Bool.and_eq_false_imp, Bool.or_eq_true, Bool.or_eq_false_iff, Bool.not_eq_true', Bool.not_eq_false', Bool.not_not, Int.not_lt, Int.not_le] at hc1
    refine c_region1 <|
      s_v (r_move rfl) rfl rfl rfl <|
      s_v (r_move rfl) rfl rfl rfl <|
      s_v (r_ii rfl rfl (b_add (by omega))) rfl rfl rfl <|
      s_v (r_assign rfl) rfl rfl rfl <|
      s_nil <|
      e_then <|
      c_region <|
      s_v (r_move rfl) rfl rfl rfl <|
      s_v (r_assign rfl) rfl rfl rfl <|
      s_end <|
      c_ret <|
      f_retV S rfl (.tmp rfl .nil) ?_
    rw [show atI k n = k.tmod n + n from if_pos hc1]
    rfl
  · try simp only [decide_eq_true_eq, decide_eq_false_iff_not, Bool.and_eq_true, Bool.and_eq_false_imp, Bool.or_eq_true, Bool.or_eq_false_iff, Bool.not_eq_true', Bool.not_eq_false', Bool.not_not, Int.not_lt, Int.not_le] at hc1
    refine c_skip <|
      e_then <|
      c_region <|
      s_v (r_move rfl) rfl rfl rfl <|
      s_v (r_assign rfl) rfl rfl rfl <|
      s_end <|
      c_ret <|
      f_retV S rfl (.tmp rfl .nil) ?_
    rw [show atI k n = k.tmod n from if_neg (by omega)]
    rfl

set_option maxRecDepth 20000 in
theorem law_piped (w : World) (m : Mem) (hm : Sub m w)  :
    Calls Try.prog 10 #[] w (RetV [] w (.bool true)) := by
  refine enterW (args := []) Try.func10 rfl Try.ntmps10 rfl rfl ?_
  have S := St.start hm
  refine c_region <|
    s_v (r_assign rfl) rfl rfl rfl <|
    s_end <|
    c_region <|
    s_callM S rfl call9 (pipe_New _ _ S.mem (room := 3) (⟨by omega, by omega⟩)) rfl rfl fun w2 m2 u2 le2 S2 h2 => ?_
  obtain ⟨_, rfl, oa1, ca1, rfl, P1⟩ := h2
  refine s_v (r_move rfl) rfl rfl rfl <|
    s_v (r_extract rfl rfl) rfl rfl rfl <|
    s_v (r_extract rfl rfl) rfl rfl rfl <|
    s_alloc (cs := #[.slice none 0 0, .int .i64 0, .bool false, .bool false]) S2 ty29 rfl rfl fun w3 b4 S5 =>
    s_setk (R' := ((b4, .cells #[.slice oa1 ((((pipeNew 3).1).b).length) ca1, .int .i64 (((pipeNew 3).1).room), .bool (((pipeNew 3).1).closed), .bool (((pipeNew 3).1).shut)] 29) :: [])) 0 S5 ty29 rfl rfl rfl (by simp [Value.oneCell', str]) rfl rfl rfl fun w6 S7 =>
    s_v (r_assign rfl) rfl rfl rfl <|
    s_end <|
    c_region <|
    s_v (r_getk 0 S7 ty29 rfl rfl rfl rfl) rfl rfl rfl <|
    s_lit ([97, 98, 99, 100] : List UInt8) S7 Try.underlying27 Try.underlying5 rfl (fun _ => by kernel_rfl) rfl (by simp) rfl rfl fun w8 m8 b8 le8 S8 F8 => ?_
  replace P1 := P1.up le8
  refine s_callM S8 rfl call12 (pipe_Write _ _ S8.mem ((pipeNew 3).1) P1 ([97, 98, 99, 100] : List UInt8) F8) rfl rfl fun w10 m10 u10 le10 S10 h10 => ?_
  replace P1 := P1.up le10; replace F8 := F8.up le10
  obtain ⟨_, rfl, oa9, ca9, rfl, P9⟩ := h10
  refine s_v (r_move rfl) rfl rfl rfl <|
    s_v (r_extract rfl rfl) rfl rfl rfl <|
    s_v (r_extract rfl rfl) rfl rfl rfl <|
    s_v (r_extract rfl rfl) rfl rfl rfl <|
    s_setk (R' := ((b4, .cells #[.slice oa9 (((pipeWrite ((pipeNew 3).1) ([97, 98, 99, 100] : List UInt8)).1.b).length) ca9, .int .i64 ((pipeWrite ((pipeNew 3).1) ([97, 98, 99, 100] : List UInt8)).1.room), .bool ((pipeWrite ((pipeNew 3).1) ([97, 98, 99, 100] : List UInt8)).1.closed), .bool ((pipeWrite ((pipeNew 3).1) ([97, 98, 99, 100] : List UInt8)).1.shut)] 29) :: [])) 0 S10 ty29 rfl rfl rfl (by simp [Value.oneCell', str]) rfl rfl rfl fun w11 S12 =>
    s_v (r_assign rfl) rfl rfl rfl <|
    s_v (r_assign rfl) rfl rfl rfl <|
    s_end <|
    c_region <|
    s_v (r_getk 0 S12 ty29 rfl rfl rfl rfl) rfl rfl rfl <|
    s_callM S12 rfl call13 (pipe_Read _ _ S12.mem (pipeWrite ((pipeNew 3).1) ([97, 98, 99, 100] : List UInt8)).1 P9 (most := 2) (⟨by omega, by omega⟩)) rfl rfl fun w14 m14 u14 le14 S14 h14 => ?_
  replace P1 := P1.up le14; replace F8 := F8.up le14; replace P9 := P9.up le14
  obtain ⟨_, ob13, cb13, rfl, ⟨oa13, ca13, rfl, P13⟩, Q13⟩ := h14
  refine s_v (r_move rfl) rfl rfl rfl <|
    s_v (r_extract rfl rfl) rfl rfl rfl <|
    s_v (r_extract rfl rfl) rfl rfl rfl <|
    s_v (r_extract rfl rfl) rfl rfl rfl <|
    s_setk (R' := ((b4, .cells #[.slice oa13 (((pipeRead (pipeWrite ((pipeNew 3).1) ([97, 98, 99, 100] : List UInt8)).1 2).1.b).length) ca13, .int .i64 ((pipeRead (pipeWrite ((pipeNew 3).1) ([97, 98, 99, 100] : List UInt8)).1 2).1.room), .bool ((pipeRead (pipeWrite ((pipeNew 3).1) ([97, 98, 99, 100] : List UInt8)).1 2).1.closed), .bool ((pipeRead (pipeWrite ((pipeNew 3).1) ([97, 98, 99, 100] : List UInt8)).1 2).1.shut)] 29) :: [])) 0 S14 ty29 rfl rfl rfl (by simp [Value.oneCell', str]) rfl rfl rfl fun w15 S16 =>
    s_v (r_assign rfl) rfl rfl rfl <|
    s_v (r_assign rfl) rfl rfl rfl <|
    s_end <|
    c_region <|
    s_v (r_getk 0 S16 ty29 rfl rfl rfl rfl) rfl rfl rfl <|
    s_callM S16 rfl call17 (pipe_Close _ _ S16.mem (pipeRead (pipeWrite ((pipeNew 3).1) ([97, 98, 99, 100] : List UInt8)).1 2).1 P13) rfl rfl fun w18 m18 u18 le18 S18 h18 => ?_
  replace P1 := P1.up le18; replace F8 := F8.up le18; replace P9 := P9.up le18; replace P13 := P13.up le18; replace Q13 := Q13.up le18
  obtain ⟨_, rfl, oa17, ca17, rfl, P17⟩ := h18
  refine s_v (r_move rfl) rfl rfl rfl <|
    s_v (r_extract rfl rfl) rfl rfl rfl <|
    s_v (r_extract rfl rfl) rfl rfl rfl <|
    s_setk (R' := ((b4, .cells #[.slice oa17 (((pipeClose (pipeRead (pipeWrite ((pipeNew 3).1) ([97, 98, 99, 100] : List UInt8)).1 2).1).1.b).length) ca17, .int .i64 ((pipeClose (pipeRead (pipeWrite ((pipeNew 3).1) ([97, 98, 99, 100] : List UInt8)).1 2).1).1.room), .bool ((pipeClose (pipeRead (pipeWrite ((pipeNew 3).1) ([97, 98, 99, 100] : List UInt8)).1 2).1).1.closed), .bool ((pipeClose (pipeRead (pipeWrite ((pipeNew 3).1) ([97, 98, 99, 100] : List UInt8)).1 2).1).1.shut)] 29) :: [])) 0 S18 ty29 rfl rfl rfl (by simp [Value.oneCell', str]) rfl rfl rfl fun w19 S20 =>
    s_v (r_assign rfl) rfl rfl rfl <|
    s_end <|
    c_region <|
    s_v (r_getk 0 S20 ty29 rfl rfl rfl rfl) rfl rfl rfl <|
    s_callM S20 rfl call12 (pipe_Write _ _ S20.mem (pipeClose (pipeRead (pipeWrite ((pipeNew 3).1) ([97, 98, 99, 100] : List UInt8)).1 2).1).1 P17 [] SlA.none) rfl rfl fun w22 m22 u22 le22 S22 h22 => ?_
  replace P1 := P1.up le22; replace F8 := F8.up le22; replace P9 := P9.up le22; replace P13 := P13.up le22; replace Q13 := Q13.up le22; replace P17 := P17.up le22
  obtain ⟨_, rfl, oa21, ca21, rfl, P21⟩ := h22
  refine s_v (r_move rfl) rfl rfl rfl <|
    s_v (r_extract rfl rfl) rfl rfl rfl <|
    s_v (r_extract rfl rfl) rfl rfl rfl <|
    s_v (r_extract rfl rfl) rfl rfl rfl <|
    s_alloc (cs := #[.slice none 0 0, .int .i64 0, .bool false, .bool false]) S22 ty29 rfl rfl fun w23 b24 S25 =>
    s_setk (R' := ((b24, .cells #[.slice oa21 (((pipeWrite (pipeClose (pipeRead (pipeWrite ((pipeNew 3).1) ([97, 98, 99, 100] : List UInt8)).1 2).1).1 []).1.b).length) ca21, .int .i64 ((pipeWrite (pipeClose (pipeRead (pipeWrite ((pipeNew 3).1) ([97, 98, 99, 100] : List UInt8)).1 2).1).1 []).1.room), .bool ((pipeWrite (pipeClose (pipeRead (pipeWrite ((pipeNew 3).1) ([97, 98, 99, 100] : List UInt8)).1 2).1).1 []).1.closed), .bool ((pipeWrite (pipeClose (pipeRead (pipeWrite ((pipeNew 3).1) ([97, 98, 99, 100] : List UInt8)).1 2).1).1 []).1.shut)] 29) :: ((b4, .cells #[.slice oa17 (((pipeClose (pipeRead (pipeWrite ((pipeNew 3).1) ([97, 98, 99, 100] : List UInt8)).1 2).1).1.b).length) ca17, .int .i64 ((pipeClose (pipeRead (pipeWrite ((pipeNew 3).1) ([97, 98, 99, 100] : List UInt8)).1 2).1).1.room), .bool ((pipeClose (pipeRead (pipeWrite ((pipeNew 3).1) ([97, 98, 99, 100] : List UInt8)).1 2).1).1.closed), .bool ((pipeClose (pipeRead (pipeWrite ((pipeNew 3).1) ([97, 98, 99, 100] : List UInt8)).1 2).1).1.shut)] 29) :: []))) 0 S25 ty29 rfl rfl rfl (by simp [Value.oneCell', str]) rfl rfl rfl fun w26 S27 =>
    s_v (r_assign rfl) rfl rfl rfl <|
    s_v (r_assign rfl) rfl rfl rfl <|
    s_end <|
    c_region <|
    s_v (r_move rfl) rfl rfl rfl <|
    s_v (r_ii rfl rfl b_eql) rfl rfl rfl <|
    s_v (r_move rfl) rfl rfl rfl <| ?_
  refine j3 (L' := [(45, .bool ((decide ((pipeNew 3).2 = 0) && decide ((pipeWrite ((pipeNew 3).1) ([97, 98, 99, 100] : List UInt8)).2.2 = 0)))), (0, .bool false), (1, .pointer (some ⟨b4, 0, none⟩)), (2, .int .i64 ((pipeNew 3).2)), (3, .int .i64 ((pipeWrite ((pipeNew 3).1) ([97, 98, 99, 100] : List UInt8)).2.1)), (4, .int .i64 ((pipeWrite ((pipeNew 3).1) ([97, 98, 99, 100] : List UInt8)).2.2)), (5, .slice ob13 (((pipeRead (pipeWrite ((pipeNew 3).1) ([97, 98, 99, 100] : List UInt8)).1 2).2.1).length) cb13), (6, .int .i64 ((pipeRead (pipeWrite ((pipeNew 3).1) ([97, 98, 99, 100] : List UInt8)).1 2).2.2)), (7, .int .i64 ((pipeClose (pipeRead (pipeWrite ((pipeNew 3).1) ([97, 98, 99, 100] : List UInt8)).1 2).1).2)), (8, .pointer (some ⟨b24, 0, none⟩)), (9, .int .i64 ((pipeWrite (pipeClose (pipeRead (pipeWrite ((pipeNew 3).1) ([97, 98, 99, 100] : List UInt8)).1 2).1).1 []).2.1)), (10, .int .i64 ((pipeWrite (pipeClose (pipeRead (pipeWrite ((pipeNew 3).1) ([97, 98, 99, 100] : List UInt8)).1 2).1).1 []).2.2))]) ?KK29 (fun K29 => ?BK29)
  case BK29 =>
    refine w_bool (t := 42) rfl (fun hc280 => ?_) (fun hc280 => ?_)
    · have hc28 := hc280
      try simp only [decide_eq_true_eq, decide_eq_false_iff_not, Bool.and_eq_true, Bool.and_eq_false_imp, Bool.or_eq_true, Bool.or_eq_false_iff, Bool.not_eq_true', Bool.not_eq_false', Bool.not_not, Int.not_lt, Int.not_le] at hc28
      refine s_on rfl rfl rfl <|
        s_v (r_move rfl) rfl rfl rfl <|
        s_on rfl rfl rfl <|
        s_v (r_ii rfl rfl b_eql) rfl rfl rfl <|
        s_v (r_pickT rfl rfl rfl) rfl rfl rfl <| ?_
      refine w_eq (t := 45) (v := .bool ((decide ((pipeNew 3).2 = 0) && decide ((pipeWrite ((pipeNew 3).1) ([97, 98, 99, 100] : List UInt8)).2.2 = 0)))) rfl (by rw [hc280]; first | simp only [Bool.true_and, Bool.false_and, Bool.true_or, Bool.false_or] | rfl) ?_
      exact w_only [45, 0, 1, 2, 3, 4, 5, 6, 7, 8, 9, 10] rfl K29
    · have hc28 := hc280
      try simp only [decide_eq_true_eq, decide_eq_false_iff_not, Bool.and_eq_true, Bool.and_eq_false_imp, Bool.or_eq_true, Bool.or_eq_false_iff, Bool.not_eq_true', Bool.not_eq_false', Bool.not_not, Int.not_lt, Int.not_le] at hc28
      refine s_off rfl rfl rfl rfl rfl rfl <|
        s_off rfl rfl rfl rfl rfl rfl <|
        s_v (r_pickF rfl rfl rfl) rfl rfl rfl <| ?_
      refine w_eq (t := 45) (v := .bool ((decide ((pipeNew 3).2 = 0) && decide ((pipeWrite ((pipeNew 3).1) ([97, 98, 99, 100] : List UInt8)).2.2 = 0)))) rfl (by rw [hc280]; first | simp only [Bool.true_and, Bool.false_and, Bool.true_or, Bool.false_or] | rfl) ?_
      exact w_only [45, 0, 1, 2, 3, 4, 5, 6, 7, 8, 9, 10] rfl K29
  refine s_v (r_move rfl) rfl rfl rfl <| ?_
  refine j3 (L' := [(49, .bool (((decide ((pipeNew 3).2 = 0) && decide ((pipeWrite ((pipeNew 3).1) ([97, 98, 99, 100] : List UInt8)).2.2 = 0)) && decide ((pipeRead (pipeWrite ((pipeNew 3).1) ([97, 98, 99, 100] : List UInt8)).1 2).2.2 = 0)))), (0, .bool false), (1, .pointer (some ⟨b4, 0, none⟩)), (2, .int .i64 ((pipeNew 3).2)), (3, .int .i64 ((pipeWrite ((pipeNew 3).1) ([97, 98, 99, 100] : List UInt8)).2.1)), (4, .int .i64 ((pipeWrite ((pipeNew 3).1) ([97, 98, 99, 100] : List UInt8)).2.2)), (5, .slice ob13 (((pipeRead (pipeWrite ((pipeNew 3).1) ([97, 98, 99, 100] : List UInt8)).1 2).2.1).length) cb13), (6, .int .i64 ((pipeRead (pipeWrite ((pipeNew 3).1) ([97, 98, 99, 100] : List UInt8)).1 2).2.2)), (7, .int .i64 ((pipeClose (pipeRead (pipeWrite ((pipeNew 3).1) ([97, 98, 99, 100] : List UInt8)).1 2).1).2)), (8, .pointer (some ⟨b24, 0, none⟩)), (9, .int .i64 ((pipeWrite (pipeClose (pipeRead (pipeWrite ((pipeNew 3).1) ([97, 98, 99, 100] : List UInt8)).1 2).1).1 []).2.1)), (10, .int .i64 ((pipeWrite (pipeClose (pipeRead (pipeWrite ((pipeNew 3).1) ([97, 98, 99, 100] : List UInt8)).1 2).1).1 []).2.2))]) ?KK31 (fun K31 => ?BK31)
  case BK31 =>
    refine w_bool (t := 46) rfl (fun hc300 => ?_) (fun hc300 => ?_)
    · have hc30 := hc300
      try simp only [decide_eq_true_eq, decide_eq_false_iff_not, Bool.and_eq_true, Bool.and_eq_false_imp, Bool.or_eq_true, Bool.or_eq_false_iff, Bool.not_eq_true', Bool.not_eq_false', Bool.not_not, Int.not_lt, Int.not_le] at hc30
      refine s_on rfl rfl rfl <|
        s_v (r_move rfl) rfl rfl rfl <|
        s_on rfl rfl rfl <|
        s_v (r_ii rfl rfl b_eql) rfl rfl rfl <|
        s_v (r_pickT rfl rfl rfl) rfl rfl rfl <| ?_
      refine w_eq (t := 49) (v := .bool (((decide ((pipeNew 3).2 = 0) && decide ((pipeWrite ((pipeNew 3).1) ([97, 98, 99, 100] : List UInt8)).2.2 = 0)) && decide ((pipeRead (pipeWrite ((pipeNew 3).1) ([97, 98, 99, 100] : List UInt8)).1 2).2.2 = 0)))) rfl (by rw [hc300]; first | simp only [Bool.true_and, Bool.false_and, Bool.true_or, Bool.false_or] | rfl) ?_
      exact w_only [49, 0, 1, 2, 3, 4, 5, 6, 7, 8, 9, 10] rfl K31
    · have hc30 := hc300
      try simp only [decide_eq_true_eq, decide_eq_false_iff_not, Bool.and_eq_true, Bool.and_eq_false_imp, Bool.or_eq_true, Bool.or_eq_false_iff, Bool.not_eq_true', Bool.not_eq_false', Bool.not_not, Int.not_lt, Int.not_le] at hc30
      refine s_off rfl rfl rfl rfl rfl rfl <|
        s_off rfl rfl rfl rfl rfl rfl <|
        s_v (r_pickF rfl rfl rfl) rfl rfl rfl <| ?_
      refine w_eq (t := 49) (v := .bool (((decide ((pipeNew 3).2 = 0) && decide ((pipeWrite ((pipeNew 3).1) ([97, 98, 99, 100] : List UInt8)).2.2 = 0)) && decide ((pipeRead (pipeWrite ((pipeNew 3).1) ([97, 98, 99, 100] : List UInt8)).1 2).2.2 = 0)))) rfl (by rw [hc300]; first | simp only [Bool.true_and, Bool.false_and, Bool.true_or, Bool.false_or] | rfl) ?_
      exact w_only [49, 0, 1, 2, 3, 4, 5, 6, 7, 8, 9, 10] rfl K31
  refine s_v (r_move rfl) rfl rfl rfl <| ?_
  refine j3 (L' := [(53, .bool ((((decide ((pipeNew 3).2 = 0) && decide ((pipeWrite ((pipeNew 3).1) ([97, 98, 99, 100] : List UInt8)).2.2 = 0)) && decide ((pipeRead (pipeWrite ((pipeNew 3).1) ([97, 98, 99, 100] : List UInt8)).1 2).2.2 = 0)) && decide ((pipeClose (pipeRead (pipeWrite ((pipeNew 3).1) ([97, 98, 99, 100] : List UInt8)).1 2).1).2 = 0)))), (0, .bool false), (1, .pointer (some ⟨b4, 0, none⟩)), (2, .int .i64 ((pipeNew 3).2)), (3, .int .i64 ((pipeWrite ((pipeNew 3).1) ([97, 98, 99, 100] : List UInt8)).2.1)), (4, .int .i64 ((pipeWrite ((pipeNew 3).1) ([97, 98, 99, 100] : List UInt8)).2.2)), (5, .slice ob13 (((pipeRead (pipeWrite ((pipeNew 3).1) ([97, 98, 99, 100] : List UInt8)).1 2).2.1).length) cb13), (6, .int .i64 ((pipeRead (pipeWrite ((pipeNew 3).1) ([97, 98, 99, 100] : List UInt8)).1 2).2.2)), (7, .int .i64 ((pipeClose (pipeRead (pipeWrite ((pipeNew 3).1) ([97, 98, 99, 100] : List UInt8)).1 2).1).2)), (8, .pointer (some ⟨b24, 0, none⟩)), (9, .int .i64 ((pipeWrite (pipeClose (pipeRead (pipeWrite ((pipeNew 3).1) ([97, 98, 99, 100] : List UInt8)).1 2).1).1 []).2.1)), (10, .int .i64 ((pipeWrite (pipeClose (pipeRead (pipeWrite ((pipeNew 3).1) ([97, 98, 99, 100] : List UInt8)).1 2).1).1 []).2.2))]) ?KK33 (fun K33 => ?BK33)
  case BK33 =>
    refine w_bool (t := 50) rfl (fun hc320 => ?_) (fun hc320 => ?_)
    · have hc32 := hc320
      try simp only [decide_eq_true_eq, decide_eq_false_iff_not, Bool.and_eq_true, Bool.and_eq_false_imp, Bool.or_eq_true, Bool.or_eq_false_iff, Bool.not_eq_true', Bool.not_eq_false', Bool.not_not, Int.not_lt, Int.not_le] at hc32
      refine s_on rfl rfl rfl <|
        s_v (r_move rfl) rfl rfl rfl <|
        s_on rfl rfl rfl <|
        s_v (r_ii rfl rfl b_eql) rfl rfl rfl <|
        s_v (r_pickT rfl rfl rfl) rfl rfl rfl <| ?_
      refine w_eq (t := 53) (v := .bool ((((decide ((pipeNew 3).2 = 0) && decide ((pipeWrite ((pipeNew 3).1) ([97, 98, 99, 100] : List UInt8)).2.2 = 0)) && decide ((pipeRead (pipeWrite ((pipeNew 3).1) ([97, 98, 99, 100] : List UInt8)).1 2).2.2 = 0)) && decide ((pipeClose (pipeRead (pipeWrite ((pipeNew 3).1) ([97, 98, 99, 100] : List UInt8)).1 2).1).2 = 0)))) rfl (by rw [hc320]; first | simp only [Bool.true_and, Bool.false_and, Bool.true_or, Bool.false_or] | rfl) ?_
      exact w_only [53, 0, 1, 2, 3, 4, 5, 6, 7, 8, 9, 10] rfl K33
    · have hc32 := hc320
      try simp only [decide_eq_true_eq, decide_eq_false_iff_not, Bool.and_eq_true, Bool.and_eq_false_imp, Bool.or_eq_true, Bool.or_eq_false_iff, Bool.not_eq_true', Bool.not_eq_false', Bool.not_not, Int.not_lt, Int.not_le] at hc32
      refine s_off rfl rfl rfl rfl rfl rfl <|
        s_off rfl rfl rfl rfl rfl rfl <|
        s_v (r_pickF rfl rfl rfl) rfl rfl rfl <| ?_
      refine w_eq (t := 53) (v := .bool ((((decide ((pipeNew 3).2 = 0) && decide ((pipeWrite ((pipeNew 3).1) ([97, 98, 99, 100] : List UInt8)).2.2 = 0)) && decide ((pipeRead (pipeWrite ((pipeNew 3).1) ([97, 98, 99, 100] : List UInt8)).1 2).2.2 = 0)) && decide ((pipeClose (pipeRead (pipeWrite ((pipeNew 3).1) ([97, 98, 99, 100] : List UInt8)).1 2).1).2 = 0)))) rfl (by rw [hc320]; first | simp only [Bool.true_and, Bool.false_and, Bool.true_or, Bool.false_or] | rfl) ?_
      exact w_only [53, 0, 1, 2, 3, 4, 5, 6, 7, 8, 9, 10] rfl K33
  refine s_v (r_move rfl) rfl rfl rfl <| ?_
  refine j3 (L' := [(57, .bool (((((decide ((pipeNew 3).2 = 0) && decide ((pipeWrite ((pipeNew 3).1) ([97, 98, 99, 100] : List UInt8)).2.2 = 0)) && decide ((pipeRead (pipeWrite ((pipeNew 3).1) ([97, 98, 99, 100] : List UInt8)).1 2).2.2 = 0)) && decide ((pipeClose (pipeRead (pipeWrite ((pipeNew 3).1) ([97, 98, 99, 100] : List UInt8)).1 2).1).2 = 0)) && decide ((pipeWrite (pipeClose (pipeRead (pipeWrite ((pipeNew 3).1) ([97, 98, 99, 100] : List UInt8)).1 2).1).1 []).2.2 = 7)))), (0, .bool false), (1, .pointer (some ⟨b4, 0, none⟩)), (2, .int .i64 ((pipeNew 3).2)), (3, .int .i64 ((pipeWrite ((pipeNew 3).1) ([97, 98, 99, 100] : List UInt8)).2.1)), (4, .int .i64 ((pipeWrite ((pipeNew 3).1) ([97, 98, 99, 100] : List UInt8)).2.2)), (5, .slice ob13 (((pipeRead (pipeWrite ((pipeNew 3).1) ([97, 98, 99, 100] : List UInt8)).1 2).2.1).length) cb13), (6, .int .i64 ((pipeRead (pipeWrite ((pipeNew 3).1) ([97, 98, 99, 100] : List UInt8)).1 2).2.2)), (7, .int .i64 ((pipeClose (pipeRead (pipeWrite ((pipeNew 3).1) ([97, 98, 99, 100] : List UInt8)).1 2).1).2)), (8, .pointer (some ⟨b24, 0, none⟩)), (9, .int .i64 ((pipeWrite (pipeClose (pipeRead (pipeWrite ((pipeNew 3).1) ([97, 98, 99, 100] : List UInt8)).1 2).1).1 []).2.1)), (10, .int .i64 ((pipeWrite (pipeClose (pipeRead (pipeWrite ((pipeNew 3).1) ([97, 98, 99, 100] : List UInt8)).1 2).1).1 []).2.2))]) ?KK35 (fun K35 => ?BK35)
  case BK35 =>
    refine w_bool (t := 54) rfl (fun hc340 => ?_) (fun hc340 => ?_)
    · have hc34 := hc340
      try simp only [decide_eq_true_eq, decide_eq_false_iff_not, Bool.and_eq_true, Bool.and_eq_false_imp, Bool.or_eq_true, Bool.or_eq_false_iff, Bool.not_eq_true', Bool.not_eq_false', Bool.not_not, Int.not_lt, Int.not_le] at hc34
      refine s_on rfl rfl rfl <|
        s_v (r_move rfl) rfl rfl rfl <|
        s_on rfl rfl rfl <|
        s_v (r_ii rfl rfl b_eql) rfl rfl rfl <|
        s_v (r_pickT rfl rfl rfl) rfl rfl rfl <| ?_
      refine w_eq (t := 57) (v := .bool (((((decide ((pipeNew 3).2 = 0) && decide ((pipeWrite ((pipeNew 3).1) ([97, 98, 99, 100] : List UInt8)).2.2 = 0)) && decide ((pipeRead (pipeWrite ((pipeNew 3).1) ([97, 98, 99, 100] : List UInt8)).1 2).2.2 = 0)) && decide ((pipeClose (pipeRead (pipeWrite ((pipeNew 3).1) ([97, 98, 99, 100] : List UInt8)).1 2).1).2 = 0)) && decide ((pipeWrite (pipeClose (pipeRead (pipeWrite ((pipeNew 3).1) ([97, 98, 99, 100] : List UInt8)).1 2).1).1 []).2.2 = 7)))) rfl (by rw [hc340]; first | simp only [Bool.true_and, Bool.false_and, Bool.true_or, Bool.false_or] | rfl) ?_
      exact w_only [57, 0, 1, 2, 3, 4, 5, 6, 7, 8, 9, 10] rfl K35
    · have hc34 := hc340
      try simp only [decide_eq_true_eq, decide_eq_false_iff_not, Bool.and_eq_true, Bool.and_eq_false_imp, Bool.or_eq_true, Bool.or_eq_false_iff, Bool.not_eq_true', Bool.not_eq_false', Bool.not_not, Int.not_lt, Int.not_le] at hc34
      refine s_off rfl rfl rfl rfl rfl rfl <|
        s_off rfl rfl rfl rfl rfl rfl <|
        s_v (r_pickF rfl rfl rfl) rfl rfl rfl <| ?_
      refine w_eq (t := 57) (v := .bool (((((decide ((pipeNew 3).2 = 0) && decide ((pipeWrite ((pipeNew 3).1) ([97, 98, 99, 100] : List UInt8)).2.2 = 0)) && decide ((pipeRead (pipeWrite ((pipeNew 3).1) ([97, 98, 99, 100] : List UInt8)).1 2).2.2 = 0)) && decide ((pipeClose (pipeRead (pipeWrite ((pipeNew 3).1) ([97, 98, 99, 100] : List UInt8)).1 2).1).2 = 0)) && decide ((pipeWrite (pipeClose (pipeRead (pipeWrite ((pipeNew 3).1) ([97, 98, 99, 100] : List UInt8)).1 2).1).1 []).2.2 = 7)))) rfl (by rw [hc340]; first | simp only [Bool.true_and, Bool.false_and, Bool.true_or, Bool.false_or] | rfl) ?_
      exact w_only [57, 0, 1, 2, 3, 4, 5, 6, 7, 8, 9, 10] rfl K35
  refine s_v (r_move rfl) rfl rfl rfl <| ?_
  refine j3 (L' := [(61, .bool ((((((decide ((pipeNew 3).2 = 0) && decide ((pipeWrite ((pipeNew 3).1) ([97, 98, 99, 100] : List UInt8)).2.2 = 0)) && decide ((pipeRead (pipeWrite ((pipeNew 3).1) ([97, 98, 99, 100] : List UInt8)).1 2).2.2 = 0)) && decide ((pipeClose (pipeRead (pipeWrite ((pipeNew 3).1) ([97, 98, 99, 100] : List UInt8)).1 2).1).2 = 0)) && decide ((pipeWrite (pipeClose (pipeRead (pipeWrite ((pipeNew 3).1) ([97, 98, 99, 100] : List UInt8)).1 2).1).1 []).2.2 = 7)) && decide ((pipeWrite ((pipeNew 3).1) ([97, 98, 99, 100] : List UInt8)).2.1 = 3)))), (0, .bool false), (1, .pointer (some ⟨b4, 0, none⟩)), (2, .int .i64 ((pipeNew 3).2)), (3, .int .i64 ((pipeWrite ((pipeNew 3).1) ([97, 98, 99, 100] : List UInt8)).2.1)), (4, .int .i64 ((pipeWrite ((pipeNew 3).1) ([97, 98, 99, 100] : List UInt8)).2.2)), (5, .slice ob13 (((pipeRead (pipeWrite ((pipeNew 3).1) ([97, 98, 99, 100] : List UInt8)).1 2).2.1).length) cb13), (6, .int .i64 ((pipeRead (pipeWrite ((pipeNew 3).1) ([97, 98, 99, 100] : List UInt8)).1 2).2.2)), (7, .int .i64 ((pipeClose (pipeRead (pipeWrite ((pipeNew 3).1) ([97, 98, 99, 100] : List UInt8)).1 2).1).2)), (8, .pointer (some ⟨b24, 0, none⟩)), (9, .int .i64 ((pipeWrite (pipeClose (pipeRead (pipeWrite ((pipeNew 3).1) ([97, 98, 99, 100] : List UInt8)).1 2).1).1 []).2.1)), (10, .int .i64 ((pipeWrite (pipeClose (pipeRead (pipeWrite ((pipeNew 3).1) ([97, 98, 99, 100] : List UInt8)).1 2).1).1 []).2.2))]) ?KK37 (fun K37 => ?BK37)
  case BK37 =>
    refine w_bool (t := 58) rfl (fun hc360 => ?_) (fun hc360 => ?_)
    · have hc36 := hc360
      try simp only [decide_eq_true_eq, decide_eq_false_iff_not, Bool.and_eq_true, Bool.and_eq_false_imp, Bool.or_eq_true, Bool.or_eq_false_iff, Bool.not_eq_true', Bool.not_eq_false', Bool.not_not, Int.not_lt, Int.not_le] at hc36
      refine s_on rfl rfl rfl <|
        s_v (r_move rfl) rfl rfl rfl <|
        s_on rfl rfl rfl <|
        s_v (r_ii rfl rfl b_eql) rfl rfl rfl <|
        s_v (r_pickT rfl rfl rfl) rfl rfl rfl <| ?_
      refine w_eq (t := 61) (v := .bool ((((((decide ((pipeNew 3).2 = 0) && decide ((pipeWrite ((pipeNew 3).1) ([97, 98, 99, 100] : List UInt8)).2.2 = 0)) && decide ((pipeRead (pipeWrite ((pipeNew 3).1) ([97, 98, 99, 100] : List UInt8)).1 2).2.2 = 0)) && decide ((pipeClose (pipeRead (pipeWrite ((pipeNew 3).1) ([97, 98, 99, 100] : List UInt8)).1 2).1).2 = 0)) && decide ((pipeWrite (pipeClose (pipeRead (pipeWrite ((pipeNew 3).1) ([97, 98, 99, 100] : List UInt8)).1 2).1).1 []).2.2 = 7)) && decide ((pipeWrite ((pipeNew 3).1) ([97, 98, 99, 100] : List UInt8)).2.1 = 3)))) rfl (by rw [hc360]; first | simp only [Bool.true_and, Bool.false_and, Bool.true_or, Bool.false_or] | rfl) ?_
      exact w_only [61, 0, 1, 2, 3, 4, 5, 6, 7, 8, 9, 10] rfl K37
    · have hc36 := hc360
      try simp only [decide_eq_true_eq, decide_eq_false_iff_not, Bool.and_eq_true, Bool.and_eq_false_imp, Bool.or_eq_true, Bool.or_eq_false_iff, Bool.not_eq_true', Bool.not_eq_false', Bool.not_not, Int.not_lt, Int.not_le] at hc36
      refine s_off rfl rfl rfl rfl rfl rfl <|
        s_off rfl rfl rfl rfl rfl rfl <|
        s_v (r_pickF rfl rfl rfl) rfl rfl rfl <| ?_
      refine w_eq (t := 61) (v := .bool ((((((decide ((pipeNew 3).2 = 0) && decide ((pipeWrite ((pipeNew 3).1) ([97, 98, 99, 100] : List UInt8)).2.2 = 0)) && decide ((pipeRead (pipeWrite ((pipeNew 3).1) ([97, 98, 99, 100] : List UInt8)).1 2).2.2 = 0)) && decide ((pipeClose (pipeRead (pipeWrite ((pipeNew 3).1) ([97, 98, 99, 100] : List UInt8)).1 2).1).2 = 0)) && decide ((pipeWrite (pipeClose (pipeRead (pipeWrite ((pipeNew 3).1) ([97, 98, 99, 100] : List UInt8)).1 2).1).1 []).2.2 = 7)) && decide ((pipeWrite ((pipeNew 3).1) ([97, 98, 99, 100] : List UInt8)).2.1 = 3)))) rfl (by rw [hc360]; first | simp only [Bool.true_and, Bool.false_and, Bool.true_or, Bool.false_or] | rfl) ?_
      exact w_only [61, 0, 1, 2, 3, 4, 5, 6, 7, 8, 9, 10] rfl K37
  refine s_v (r_move rfl) rfl rfl rfl <| ?_
  refine j4 (L' := [(66, .bool (((((((decide ((pipeNew 3).2 = 0) && decide ((pipeWrite ((pipeNew 3).1) ([97, 98, 99, 100] : List UInt8)).2.2 = 0)) && decide ((pipeRead (pipeWrite ((pipeNew 3).1) ([97, 98, 99, 100] : List UInt8)).1 2).2.2 = 0)) && decide ((pipeClose (pipeRead (pipeWrite ((pipeNew 3).1) ([97, 98, 99, 100] : List UInt8)).1 2).1).2 = 0)) && decide ((pipeWrite (pipeClose (pipeRead (pipeWrite ((pipeNew 3).1) ([97, 98, 99, 100] : List UInt8)).1 2).1).1 []).2.2 = 7)) && decide ((pipeWrite ((pipeNew 3).1) ([97, 98, 99, 100] : List UInt8)).2.1 = 3)) && decide ((pipeRead (pipeWrite ((pipeNew 3).1) ([97, 98, 99, 100] : List UInt8)).1 2).2.1 = [97, 98])))), (0, .bool false), (1, .pointer (some ⟨b4, 0, none⟩)), (2, .int .i64 ((pipeNew 3).2)), (3, .int .i64 ((pipeWrite ((pipeNew 3).1) ([97, 98, 99, 100] : List UInt8)).2.1)), (4, .int .i64 ((pipeWrite ((pipeNew 3).1) ([97, 98, 99, 100] : List UInt8)).2.2)), (5, .slice ob13 (((pipeRead (pipeWrite ((pipeNew 3).1) ([97, 98, 99, 100] : List UInt8)).1 2).2.1).length) cb13), (6, .int .i64 ((pipeRead (pipeWrite ((pipeNew 3).1) ([97, 98, 99, 100] : List UInt8)).1 2).2.2)), (7, .int .i64 ((pipeClose (pipeRead (pipeWrite ((pipeNew 3).1) ([97, 98, 99, 100] : List UInt8)).1 2).1).2)), (8, .pointer (some ⟨b24, 0, none⟩)), (9, .int .i64 ((pipeWrite (pipeClose (pipeRead (pipeWrite ((pipeNew 3).1) ([97, 98, 99, 100] : List UInt8)).1 2).1).1 []).2.1)), (10, .int .i64 ((pipeWrite (pipeClose (pipeRead (pipeWrite ((pipeNew 3).1) ([97, 98, 99, 100] : List UInt8)).1 2).1).1 []).2.2))]) ?KK39 (fun K39 => ?BK39)
  case BK39 =>
    refine w_bool (t := 62) rfl (fun hc380 => ?_) (fun hc380 => ?_)
    · have hc38 := hc380
      try simp only [decide_eq_true_eq, decide_eq_false_iff_not, Bool.and_eq_true, Bool.and_eq_false_imp, Bool.or_eq_true, Bool.or_eq_false_iff, Bool.not_eq_true', Bool.not_eq_false', Bool.not_not, Int.not_lt, Int.not_le] at hc38
      refine s_on rfl rfl rfl <|
        s_v (r_move rfl) rfl rfl rfl <|
        s_on rfl rfl rfl <|
        s_v (r_b2s rfl Q13 S27.mem Try.underlying27 Try.underlying5 Try.underlying9) rfl rfl rfl <|
        s_on rfl rfl rfl <|
        s_v (r_ss rfl rfl bs_eql) rfl rfl rfl <|
        s_v (r_pickT rfl rfl rfl) rfl rfl rfl <| ?_
      refine w_eq (t := 66) (v := .bool (((((((decide ((pipeNew 3).2 = 0) && decide ((pipeWrite ((pipeNew 3).1) ([97, 98, 99, 100] : List UInt8)).2.2 = 0)) && decide ((pipeRead (pipeWrite ((pipeNew 3).1) ([97, 98, 99, 100] : List UInt8)).1 2).2.2 = 0)) && decide ((pipeClose (pipeRead (pipeWrite ((pipeNew 3).1) ([97, 98, 99, 100] : List UInt8)).1 2).1).2 = 0)) && decide ((pipeWrite (pipeClose (pipeRead (pipeWrite ((pipeNew 3).1) ([97, 98, 99, 100] : List UInt8)).1 2).1).1 []).2.2 = 7)) && decide ((pipeWrite ((pipeNew 3).1) ([97, 98, 99, 100] : List UInt8)).2.1 = 3)) && decide ((pipeRead (pipeWrite ((pipeNew 3).1) ([97, 98, 99, 100] : List UInt8)).1 2).2.1 = [97, 98])))) rfl (by rw [hc380]; first | simp only [Bool.true_and, Bool.false_and, Bool.true_or, Bool.false_or] | rfl) ?_
      exact w_only [66, 0, 1, 2, 3, 4, 5, 6, 7, 8, 9, 10] rfl K39
    · have hc38 := hc380
      try simp only [decide_eq_true_eq, decide_eq_false_iff_not, Bool.and_eq_true, Bool.and_eq_false_imp, Bool.or_eq_true, Bool.or_eq_false_iff, Bool.not_eq_true', Bool.not_eq_false', Bool.not_not, Int.not_lt, Int.not_le] at hc38
      refine s_off rfl rfl rfl rfl rfl rfl <|
        s_off rfl rfl rfl rfl rfl rfl <|
        s_off rfl rfl rfl rfl rfl rfl <|
        s_v (r_pickF rfl rfl rfl) rfl rfl rfl <| ?_
      refine w_eq (t := 66) (v := .bool (((((((decide ((pipeNew 3).2 = 0) && decide ((pipeWrite ((pipeNew 3).1) ([97, 98, 99, 100] : List UInt8)).2.2 = 0)) && decide ((pipeRead (pipeWrite ((pipeNew 3).1) ([97, 98, 99, 100] : List UInt8)).1 2).2.2 = 0)) && decide ((pipeClose (pipeRead (pipeWrite ((pipeNew 3).1) ([97, 98, 99, 100] : List UInt8)).1 2).1).2 = 0)) && decide ((pipeWrite (pipeClose (pipeRead (pipeWrite ((pipeNew 3).1) ([97, 98, 99, 100] : List UInt8)).1 2).1).1 []).2.2 = 7)) && decide ((pipeWrite ((pipeNew 3).1) ([97, 98, 99, 100] : List UInt8)).2.1 = 3)) && decide ((pipeRead (pipeWrite ((pipeNew 3).1) ([97, 98, 99, 100] : List UInt8)).1 2).2.1 = [97, 98])))) rfl (by rw [hc380]; first | simp only [Bool.true_and, Bool.false_and, Bool.true_or, Bool.false_or] | rfl) ?_
      exact w_only [66, 0, 1, 2, 3, 4, 5, 6, 7, 8, 9, 10] rfl K39
  refine s_v (r_move rfl) rfl rfl rfl <| ?_
  refine j5 (L' := [(72, .bool ((((((((decide ((pipeNew 3).2 = 0) && decide ((pipeWrite ((pipeNew 3).1) ([97, 98, 99, 100] : List UInt8)).2.2 = 0)) && decide ((pipeRead (pipeWrite ((pipeNew 3).1) ([97, 98, 99, 100] : List UInt8)).1 2).2.2 = 0)) && decide ((pipeClose (pipeRead (pipeWrite ((pipeNew 3).1) ([97, 98, 99, 100] : List UInt8)).1 2).1).2 = 0)) && decide ((pipeWrite (pipeClose (pipeRead (pipeWrite ((pipeNew 3).1) ([97, 98, 99, 100] : List UInt8)).1 2).1).1 []).2.2 = 7)) && decide ((pipeWrite ((pipeNew 3).1) ([97, 98, 99, 100] : List UInt8)).2.1 = 3)) && decide ((pipeRead (pipeWrite ((pipeNew 3).1) ([97, 98, 99, 100] : List UInt8)).1 2).2.1 = [97, 98])) && decide ((pipeClose (pipeRead (pipeWrite ((pipeNew 3).1) ([97, 98, 99, 100] : List UInt8)).1 2).1).1.b = [99])))), (0, .bool false), (1, .pointer (some ⟨b4, 0, none⟩)), (2, .int .i64 ((pipeNew 3).2)), (3, .int .i64 ((pipeWrite ((pipeNew 3).1) ([97, 98, 99, 100] : List UInt8)).2.1)), (4, .int .i64 ((pipeWrite ((pipeNew 3).1) ([97, 98, 99, 100] : List UInt8)).2.2)), (5, .slice ob13 (((pipeRead (pipeWrite ((pipeNew 3).1) ([97, 98, 99, 100] : List UInt8)).1 2).2.1).length) cb13), (6, .int .i64 ((pipeRead (pipeWrite ((pipeNew 3).1) ([97, 98, 99, 100] : List UInt8)).1 2).2.2)), (7, .int .i64 ((pipeClose (pipeRead (pipeWrite ((pipeNew 3).1) ([97, 98, 99, 100] : List UInt8)).1 2).1).2)), (8, .pointer (some ⟨b24, 0, none⟩)), (9, .int .i64 ((pipeWrite (pipeClose (pipeRead (pipeWrite ((pipeNew 3).1) ([97, 98, 99, 100] : List UInt8)).1 2).1).1 []).2.1)), (10, .int .i64 ((pipeWrite (pipeClose (pipeRead (pipeWrite ((pipeNew 3).1) ([97, 98, 99, 100] : List UInt8)).1 2).1).1 []).2.2))]) ?KK41 (fun K41 => ?BK41)
  case BK41 =>
    refine w_bool (t := 67) rfl (fun hc400 => ?_) (fun hc400 => ?_)
    · have hc40 := hc400
      try simp only [decide_eq_true_eq, decide_eq_false_iff_not, Bool.and_eq_true, Bool.and_eq_false_imp, Bool.or_eq_true, Bool.or_eq_false_iff, Bool.not_eq_true', Bool.not_eq_false', Bool.not_not, Int.not_lt, Int.not_le] at hc40
      refine s_on rfl rfl rfl <|
        s_v (r_fieldAddr0 rfl fld29_0) rfl rfl rfl <|
        s_on rfl rfl rfl <|
        s_v (r_get 1 S27 ty27 rfl rfl rfl) rfl rfl rfl <|
        s_on rfl rfl rfl <|
        s_v (r_b2s rfl P17 S27.mem Try.underlying27 Try.underlying5 Try.underlying9) rfl rfl rfl <|
        s_on rfl rfl rfl <|
        s_v (r_ss rfl rfl bs_eql) rfl rfl rfl <|
        s_v (r_pickT rfl rfl rfl) rfl rfl rfl <| ?_
      refine w_eq (t := 72) (v := .bool ((((((((decide ((pipeNew 3).2 = 0) && decide ((pipeWrite ((pipeNew 3).1) ([97, 98, 99, 100] : List UInt8)).2.2 = 0)) && decide ((pipeRead (pipeWrite ((pipeNew 3).1) ([97, 98, 99, 100] : List UInt8)).1 2).2.2 = 0)) && decide ((pipeClose (pipeRead (pipeWrite ((pipeNew 3).1) ([97, 98, 99, 100] : List UInt8)).1 2).1).2 = 0)) && decide ((pipeWrite (pipeClose (pipeRead (pipeWrite ((pipeNew 3).1) ([97, 98, 99, 100] : List UInt8)).1 2).1).1 []).2.2 = 7)) && decide ((pipeWrite ((pipeNew 3).1) ([97, 98, 99, 100] : List UInt8)).2.1 = 3)) && decide ((pipeRead (pipeWrite ((pipeNew 3).1) ([97, 98, 99, 100] : List UInt8)).1 2).2.1 = [97, 98])) && decide ((pipeClose (pipeRead (pipeWrite ((pipeNew 3).1) ([97, 98, 99, 100] : List UInt8)).1 2).1).1.b = [99])))) rfl (by rw [hc400]; first | simp only [Bool.true_and, Bool.false_and, Bool.true_or, Bool.false_or] | rfl) ?_
      exact w_only [72, 0, 1, 2, 3, 4, 5, 6, 7, 8, 9, 10] rfl K41
    · have hc40 := hc400
      try simp only [decide_eq_true_eq, decide_eq_false_iff_not, Bool.and_eq_true, Bool.and_eq_false_imp, Bool.or_eq_true, Bool.or_eq_false_iff, Bool.not_eq_true', Bool.not_eq_false', Bool.not_not, Int.not_lt, Int.not_le] at hc40
      refine s_off rfl rfl rfl rfl rfl rfl <|
        s_off rfl rfl rfl rfl rfl rfl <|
        s_off rfl rfl rfl rfl rfl rfl <|
        s_off rfl rfl rfl rfl rfl rfl <|
        s_v (r_pickF rfl rfl rfl) rfl rfl rfl <| ?_
      refine w_eq (t := 72) (v := .bool ((((((((decide ((pipeNew 3).2 = 0) && decide ((pipeWrite ((pipeNew 3).1) ([97, 98, 99, 100] : List UInt8)).2.2 = 0)) && decide ((pipeRead (pipeWrite ((pipeNew 3).1) ([97, 98, 99, 100] : List UInt8)).1 2).2.2 = 0)) && decide ((pipeClose (pipeRead (pipeWrite ((pipeNew 3).1) ([97, 98, 99, 100] : List UInt8)).1 2).1).2 = 0)) && decide ((pipeWrite (pipeClose (pipeRead (pipeWrite ((pipeNew 3).1) ([97, 98, 99, 100] : List UInt8)).1 2).1).1 []).2.2 = 7)) && decide ((pipeWrite ((pipeNew 3).1) ([97, 98, 99, 100] : List UInt8)).2.1 = 3)) && decide ((pipeRead (pipeWrite ((pipeNew 3).1) ([97, 98, 99, 100] : List UInt8)).1 2).2.1 = [97, 98])) && decide ((pipeClose (pipeRead (pipeWrite ((pipeNew 3).1) ([97, 98, 99, 100] : List UInt8)).1 2).1).1.b = [99])))) rfl (by rw [hc400]; first | simp only [Bool.true_and, Bool.false_and, Bool.true_or, Bool.false_or] | rfl) ?_
      exact w_only [72, 0, 1, 2, 3, 4, 5, 6, 7, 8, 9, 10] rfl K41
  refine s_v (r_move rfl) rfl rfl rfl <| ?_
  refine jw4 S27 (L' := [(77, .bool (((((((((decide ((pipeNew 3).2 = 0) && decide ((pipeWrite ((pipeNew 3).1) ([97, 98, 99, 100] : List UInt8)).2.2 = 0)) && decide ((pipeRead (pipeWrite ((pipeNew 3).1) ([97, 98, 99, 100] : List UInt8)).1 2).2.2 = 0)) && decide ((pipeClose (pipeRead (pipeWrite ((pipeNew 3).1) ([97, 98, 99, 100] : List UInt8)).1 2).1).2 = 0)) && decide ((pipeWrite (pipeClose (pipeRead (pipeWrite ((pipeNew 3).1) ([97, 98, 99, 100] : List UInt8)).1 2).1).1 []).2.2 = 7)) && decide ((pipeWrite ((pipeNew 3).1) ([97, 98, 99, 100] : List UInt8)).2.1 = 3)) && decide ((pipeRead (pipeWrite ((pipeNew 3).1) ([97, 98, 99, 100] : List UInt8)).1 2).2.1 = [97, 98])) && decide ((pipeClose (pipeRead (pipeWrite ((pipeNew 3).1) ([97, 98, 99, 100] : List UInt8)).1 2).1).1.b = [99])) && !(((pipeClose (pipeRead (pipeWrite ((pipeNew 3).1) ([97, 98, 99, 100] : List UInt8)).1 2).1).1.closed && decide (((pipeClose (pipeRead (pipeWrite ((pipeNew 3).1) ([97, 98, 99, 100] : List UInt8)).1 2).1).1.b).length = 0)))))), (0, .bool false), (1, .pointer (some ⟨b4, 0, none⟩)), (2, .int .i64 ((pipeNew 3).2)), (3, .int .i64 ((pipeWrite ((pipeNew 3).1) ([97, 98, 99, 100] : List UInt8)).2.1)), (4, .int .i64 ((pipeWrite ((pipeNew 3).1) ([97, 98, 99, 100] : List UInt8)).2.2)), (5, .slice ob13 (((pipeRead (pipeWrite ((pipeNew 3).1) ([97, 98, 99, 100] : List UInt8)).1 2).2.1).length) cb13), (6, .int .i64 ((pipeRead (pipeWrite ((pipeNew 3).1) ([97, 98, 99, 100] : List UInt8)).1 2).2.2)), (7, .int .i64 ((pipeClose (pipeRead (pipeWrite ((pipeNew 3).1) ([97, 98, 99, 100] : List UInt8)).1 2).1).2)), (8, .pointer (some ⟨b24, 0, none⟩)), (9, .int .i64 ((pipeWrite (pipeClose (pipeRead (pipeWrite ((pipeNew 3).1) ([97, 98, 99, 100] : List UInt8)).1 2).1).1 []).2.1)), (10, .int .i64 ((pipeWrite (pipeClose (pipeRead (pipeWrite ((pipeNew 3).1) ([97, 98, 99, 100] : List UInt8)).1 2).1).1 []).2.2))]) ?KK43 (fun K43 => ?BK43)
  case BK43 =>
    refine w_bool (t := 73) rfl (fun hc420 => ?_) (fun hc420 => ?_)
    · have hc42 := hc420
      try simp only [decide_eq_true_eq, decide_eq_false_iff_not, Bool.and_eq_true, Bool.and_eq_false_imp, Bool.or_eq_true, Bool.or_eq_false_iff, Bool.not_eq_true', Bool.not_eq_false', Bool.not_not, Int.not_lt, Int.not_le] at hc42
      refine s_on rfl rfl rfl <|
        s_v (r_getk 1 S27 ty29 rfl rfl rfl rfl) rfl rfl rfl <|
        s_on rfl rfl rfl <|
        s_callV S27 rfl call20 (pipe_Over _ _ S27.mem (pipeClose (pipeRead (pipeWrite ((pipeNew 3).1) ([97, 98, 99, 100] : List UInt8)).1 2).1).1) rfl rfl fun w44 S45 =>
        s_on rfl rfl rfl <|
        s_v (r_not rfl) rfl rfl rfl <|
        s_v (r_pickT rfl rfl rfl) rfl rfl rfl <| ?_
      refine w_eq (t := 77) (v := .bool (((((((((decide ((pipeNew 3).2 = 0) && decide ((pipeWrite ((pipeNew 3).1) ([97, 98, 99, 100] : List UInt8)).2.2 = 0)) && decide ((pipeRead (pipeWrite ((pipeNew 3).1) ([97, 98, 99, 100] : List UInt8)).1 2).2.2 = 0)) && decide ((pipeClose (pipeRead (pipeWrite ((pipeNew 3).1) ([97, 98, 99, 100] : List UInt8)).1 2).1).2 = 0)) && decide ((pipeWrite (pipeClose (pipeRead (pipeWrite ((pipeNew 3).1) ([97, 98, 99, 100] : List UInt8)).1 2).1).1 []).2.2 = 7)) && decide ((pipeWrite ((pipeNew 3).1) ([97, 98, 99, 100] : List UInt8)).2.1 = 3)) && decide ((pipeRead (pipeWrite ((pipeNew 3).1) ([97, 98, 99, 100] : List UInt8)).1 2).2.1 = [97, 98])) && decide ((pipeClose (pipeRead (pipeWrite ((pipeNew 3).1) ([97, 98, 99, 100] : List UInt8)).1 2).1).1.b = [99])) && !(((pipeClose (pipeRead (pipeWrite ((pipeNew 3).1) ([97, 98, 99, 100] : List UInt8)).1 2).1).1.closed && decide (((pipeClose (pipeRead (pipeWrite ((pipeNew 3).1) ([97, 98, 99, 100] : List UInt8)).1 2).1).1.b).length = 0)))))) rfl (by rw [hc420]; first | simp only [Bool.true_and, Bool.false_and, Bool.true_or, Bool.false_or] | rfl) ?_
      exact w_only [77, 0, 1, 2, 3, 4, 5, 6, 7, 8, 9, 10] rfl (K43 _ S45)
    · have hc42 := hc420
      try simp only [decide_eq_true_eq, decide_eq_false_iff_not, Bool.and_eq_true, Bool.and_eq_false_imp, Bool.or_eq_true, Bool.or_eq_false_iff, Bool.not_eq_true', Bool.not_eq_false', Bool.not_not, Int.not_lt, Int.not_le] at hc42
      refine s_off rfl rfl rfl rfl rfl rfl <|
        s_off rfl rfl rfl rfl rfl rfl <|
        s_off rfl rfl rfl rfl rfl rfl <|
        s_v (r_pickF rfl rfl rfl) rfl rfl rfl <| ?_
      refine w_eq (t := 77) (v := .bool (((((((((decide ((pipeNew 3).2 = 0) && decide ((pipeWrite ((pipeNew 3).1) ([97, 98, 99, 100] : List UInt8)).2.2 = 0)) && decide ((pipeRead (pipeWrite ((pipeNew 3).1) ([97, 98, 99, 100] : List UInt8)).1 2).2.2 = 0)) && decide ((pipeClose (pipeRead (pipeWrite ((pipeNew 3).1) ([97, 98, 99, 100] : List UInt8)).1 2).1).2 = 0)) && decide ((pipeWrite (pipeClose (pipeRead (pipeWrite ((pipeNew 3).1) ([97, 98, 99, 100] : List UInt8)).1 2).1).1 []).2.2 = 7)) && decide ((pipeWrite ((pipeNew 3).1) ([97, 98, 99, 100] : List UInt8)).2.1 = 3)) && decide ((pipeRead (pipeWrite ((pipeNew 3).1) ([97, 98, 99, 100] : List UInt8)).1 2).2.1 = [97, 98])) && decide ((pipeClose (pipeRead (pipeWrite ((pipeNew 3).1) ([97, 98, 99, 100] : List UInt8)).1 2).1).1.b = [99])) && !(((pipeClose (pipeRead (pipeWrite ((pipeNew 3).1) ([97, 98, 99, 100] : List UInt8)).1 2).1).1.closed && decide (((pipeClose (pipeRead (pipeWrite ((pipeNew 3).1) ([97, 98, 99, 100] : List UInt8)).1 2).1).1.b).length = 0)))))) rfl (by rw [hc420]; first | simp only [Bool.true_and, Bool.false_and, Bool.true_or, Bool.false_or] | rfl) ?_
      exact w_only [77, 0, 1, 2, 3, 4, 5, 6, 7, 8, 9, 10] rfl (K43 _ S27)
  intro w46 S47
  refine s_v (r_assign rfl) rfl rfl rfl <|
    s_end <|
    c_ret <|
    f_retV S47 rfl (.tmp rfl .nil) ?_
  simp only [packV]; congr 1

set_option maxRecDepth 20000 in
theorem ref_CheckPipe (w : World) (m : Mem) (hm : Sub m w) (p : PipeS) {oa : Option Addr} {cap : Nat} :
    Calls Try.prog 19 #[.agg #[.slice oa p.b.length cap, .int .i64 p.room, .bool p.closed, .bool p.shut]] w (RetV [] w (.int .i64 (pipeCheck p))) := by
  refine enterW (args := [.agg #[.slice oa p.b.length cap, .int .i64 p.room, .bool p.closed, .bool p.shut]]) Try.func19 rfl Try.ntmps19 rfl rfl ?_
  have S := St.start hm
  refine c_region <|
    s_box (cs := #[.slice oa p.b.length cap, .int .i64 p.room, .bool p.closed, .bool p.shut]) S rfl rfl rfl fun w1 b2 S3 =>
    s_v (r_assign rfl) rfl rfl rfl <|
    s_end <|
    c_seq <|
    c_block <|
    c_region <|
    s_v (r_fieldAddr0 rfl fld29_1) rfl rfl rfl <|
    s_v (r_get 0 S3 ty3 rfl rfl rfl) rfl rfl rfl <|
    s_v (r_ii rfl rfl b_lss) rfl rfl rfl <|
    s_v (r_move rfl) rfl rfl rfl <| ?_
  refine j4 (L' := [(11, .bool ((decide (p.room < 0) || decide (1000 < p.room)))), (0, .agg #[.slice oa p.b.length cap, .int .i64 p.room, .bool p.closed, .bool p.shut]), (1, .pointer (some ⟨b2, 0, none⟩)), (2, .int .i64 0)]) ?KK5 (fun K5 => ?BK5)
  case BK5 =>
    refine w_bool (t := 7) rfl (fun hc40 => ?_) (fun hc40 => ?_)
    · have hc4 := hc40
      try simp only [decide_eq_true_eq, decide_eq_false_iff_not, Bool.and_eq_true, Bool.and_eq_false_imp, Bool.or_eq_true, Bool.or_eq_false_iff, Bool.not_eq_true', Bool.not_eq_false', Bool.not_not, Int.not_lt, Int.not_le] at hc4
      refine s_off rfl rfl rfl rfl rfl rfl <|
        s_off rfl rfl rfl rfl rfl rfl <|
        s_off rfl rfl rfl rfl rfl rfl <|
        s_v (r_pickT rfl rfl rfl) rfl rfl rfl <| ?_
      refine w_eq (t := 11) (v := .bool ((decide (p.room < 0) || decide (1000 < p.room)))) rfl (by rw [hc40]; first | simp only [Bool.true_and, Bool.false_and, Bool.true_or, Bool.false_or] | rfl) ?_
      exact w_only [11, 0, 1, 2] rfl K5
    · have hc4 := hc40
      try simp only [decide_eq_true_eq, decide_eq_false_iff_not, Bool.and_eq_true, Bool.and_eq_false_imp, Bool.or_eq_true, Bool.or_eq_false_iff, Bool.not_eq_true', Bool.not_eq_false', Bool.not_not, Int.not_lt, Int.not_le] at hc4
      refine s_on rfl rfl rfl <|
        s_v (r_fieldAddr0 rfl fld29_1) rfl rfl rfl <|
        s_on rfl rfl rfl <|
        s_v (r_get 0 S3 ty3 rfl rfl rfl) rfl rfl rfl <|
        s_on rfl rfl rfl <|
        s_v (r_ii rfl rfl b_gtr) rfl rfl rfl <|
        s_v (r_pickF rfl rfl rfl) rfl rfl rfl <| ?_
      refine w_eq (t := 11) (v := .bool ((decide (p.room < 0) || decide (1000 < p.room)))) rfl (by rw [hc40]; first | simp only [Bool.true_and, Bool.false_and, Bool.true_or, Bool.false_or] | rfl) ?_
      exact w_only [11, 0, 1, 2] rfl K5
  refine s_v (r_assign rfl) rfl rfl rfl <|
    s_end <|
    c_if rfl (fun hc6 => ?_) (fun hc6 => ?_)
  · try simp only [decide_eq_true_eq, decide_eq_false_iff_not, Bool.and_eq_true, Bool.and_eq_false_imp, Bool.or_eq_true, Bool.or_eq_false_iff, Bool.not_eq_true', Bool.not_eq_false', Bool.not_not, Int.not_lt, Int.not_le] at hc6
    refine c_region <|
      s_v (r_assign rfl) rfl rfl rfl <|
      s_end <|
      c_ret <|
      e_blkR <|
      e_thenR <|
      f_retV S3 rfl (.tmp rfl .nil) ?_
    simp only [packV, pipeCheck]
    grind
  · try simp only [decide_eq_true_eq, decide_eq_false_iff_not, Bool.and_eq_true, Bool.and_eq_false_imp, Bool.or_eq_true, Bool.or_eq_false_iff, Bool.not_eq_true', Bool.not_eq_false', Bool.not_not, Int.not_lt, Int.not_le] at hc6
    refine c_seq <|
      c_region <|
      s_v (r_fieldAddr0 rfl fld29_1) rfl rfl rfl <|
      s_v (r_get 0 S3 ty3 rfl rfl rfl) rfl rfl rfl <|
      s_v (r_ii rfl rfl b_neq) rfl rfl rfl <|
      s_v (r_move rfl) rfl rfl rfl <| ?_
    refine j7 (L' := [(23, .bool ((!decide (p.room = 0) && decide (p.room < (p.b.length : Int))))), (0, .agg #[.slice oa p.b.length cap, .int .i64 p.room, .bool p.closed, .bool p.shut]), (1, .pointer (some ⟨b2, 0, none⟩)), (2, .int .i64 0), (3, .bool ((decide (p.room < 0) || decide (1000 < p.room))))]) ?KK8 (fun K8 => ?BK8)
    case BK8 =>
      refine w_bool (t := 16) rfl (fun hc70 => ?_) (fun hc70 => ?_)
      · have hc7 := hc70
        try simp only [decide_eq_true_eq, decide_eq_false_iff_not, Bool.and_eq_true, Bool.and_eq_false_imp, Bool.or_eq_true, Bool.or_eq_false_iff, Bool.not_eq_true', Bool.not_eq_false', Bool.not_not, Int.not_lt, Int.not_le] at hc7
        refine s_on rfl rfl rfl <|
          s_v (r_fieldAddr0 rfl fld29_0) rfl rfl rfl <|
          s_on rfl rfl rfl <|
          s_v (r_get 0 S3 ty27 rfl rfl rfl) rfl rfl rfl <|
          s_on rfl rfl rfl <|
          s_v (r_len rfl Try.underlying27) rfl rfl rfl <|
          s_on rfl rfl rfl <|
          s_v (r_fieldAddr0 rfl fld29_1) rfl rfl rfl <|
          s_on rfl rfl rfl <|
          s_v (r_get 0 S3 ty3 rfl rfl rfl) rfl rfl rfl <|
          s_on rfl rfl rfl <|
          s_v (r_ii rfl rfl b_gtr) rfl rfl rfl <|
          s_v (r_pickT rfl rfl rfl) rfl rfl rfl <| ?_
        refine w_eq (t := 23) (v := .bool ((!decide (p.room = 0) && decide (p.room < (p.b.length : Int))))) rfl (by rw [hc70]; first | simp only [Bool.true_and, Bool.false_and, Bool.true_or, Bool.false_or] | rfl) ?_
        exact w_only [23, 0, 1, 2, 3] rfl K8
      · have hc7 := hc70
        try simp only [decide_eq_true_eq, decide_eq_false_iff_not, Bool.and_eq_true, Bool.and_eq_false_imp, Bool.or_eq_true, Bool.or_eq_false_iff, Bool.not_eq_true', Bool.not_eq_false', Bool.not_not, Int.not_lt, Int.not_le] at hc7
        refine s_off rfl rfl rfl rfl rfl rfl <|
          s_off rfl rfl rfl rfl rfl rfl <|
          s_off rfl rfl rfl rfl rfl rfl <|
          s_off rfl rfl rfl rfl rfl rfl <|
          s_off rfl rfl rfl rfl rfl rfl <|
          s_off rfl rfl rfl rfl rfl rfl <|
          s_v (r_pickF rfl rfl rfl) rfl rfl rfl <| ?_
        refine w_eq (t := 23) (v := .bool ((!decide (p.room = 0) && decide (p.room < (p.b.length : Int))))) rfl (by rw [hc70]; first | simp only [Bool.true_and, Bool.false_and, Bool.true_or, Bool.false_or] | rfl) ?_
        exact w_only [23, 0, 1, 2, 3] rfl K8
    refine s_v (r_assign rfl) rfl rfl rfl <|
      s_end <|
      c_if rfl (fun hc9 => ?_) (fun hc9 => ?_)
    · try simp only [decide_eq_true_eq, decide_eq_false_iff_not, Bool.and_eq_true, Bool.and_eq_false_imp, Bool.or_eq_true, Bool.or_eq_false_iff, Bool.not_eq_true', Bool.not_eq_false', Bool.not_not, Int.not_lt, Int.not_le] at hc9
      refine c_skip <|
        e_then <|
        c_if rfl (fun hc10 => ?_) (fun hc10 => ?_)
      · try simp only [decide_eq_true_eq, decide_eq_false_iff_not, Bool.and_eq_true, Bool.and_eq_false_imp, Bool.or_eq_true, Bool.or_eq_false_iff, Bool.not_eq_true', Bool.not_eq_false', Bool.not_not, Int.not_lt, Int.not_le] at hc10
        refine c_region <|
          s_v (r_assign rfl) rfl rfl rfl <|
          s_end <|
          c_ret <|
          e_blkR <|
          e_thenR <|
          f_retV S3 rfl (.tmp rfl .nil) ?_
        simp only [packV, pipeCheck]
        grind
      · try simp only [decide_eq_true_eq, decide_eq_false_iff_not, Bool.and_eq_true, Bool.and_eq_false_imp, Bool.or_eq_true, Bool.or_eq_false_iff, Bool.not_eq_true', Bool.not_eq_false', Bool.not_not, Int.not_lt, Int.not_le] at hc10
        refine c_region <|
          s_v (r_fieldAddr0 rfl fld29_3) rfl rfl rfl <|
          s_v (r_get 0 S3 ty4 rfl rfl rfl) rfl rfl rfl <|
          s_v (r_move rfl) rfl rfl rfl <| ?_
        refine j5 (L' := [(36, .bool ((p.shut && !decide ((p.b.length : Int) = 0)))), (0, .agg #[.slice oa p.b.length cap, .int .i64 p.room, .bool p.closed, .bool p.shut]), (1, .pointer (some ⟨b2, 0, none⟩)), (2, .int .i64 0), (3, .bool ((decide (p.room < 0) || decide (1000 < p.room)))), (12, .bool ((!decide (p.room = 0) && decide (p.room < (p.b.length : Int)))))]) ?KK12 (fun K12 => ?BK12)
        case BK12 =>
          refine w_bool (t := 31) rfl (fun hc110 => ?_) (fun hc110 => ?_)
          · have hc11 := hc110
            try simp only [decide_eq_true_eq, decide_eq_false_iff_not, Bool.and_eq_true, Bool.and_eq_false_imp, Bool.or_eq_true, Bool.or_eq_false_iff, Bool.not_eq_true', Bool.not_eq_false', Bool.not_not, Int.not_lt, Int.not_le] at hc11
            refine s_on rfl rfl rfl <|
              s_v (r_fieldAddr0 rfl fld29_0) rfl rfl rfl <|
              s_on rfl rfl rfl <|
              s_v (r_get 0 S3 ty27 rfl rfl rfl) rfl rfl rfl <|
              s_on rfl rfl rfl <|
              s_v (r_len rfl Try.underlying27) rfl rfl rfl <|
              s_on rfl rfl rfl <|
              s_v (r_ii rfl rfl b_neq) rfl rfl rfl <|
              s_v (r_pickT rfl rfl rfl) rfl rfl rfl <| ?_
            refine w_eq (t := 36) (v := .bool ((p.shut && !decide ((p.b.length : Int) = 0)))) rfl (by rw [hc110]; first | simp only [Bool.true_and, Bool.false_and, Bool.true_or, Bool.false_or] | rfl) ?_
            exact w_only [36, 0, 1, 2, 3, 12] rfl K12
          · have hc11 := hc110
            try simp only [decide_eq_true_eq, decide_eq_false_iff_not, Bool.and_eq_true, Bool.and_eq_false_imp, Bool.or_eq_true, Bool.or_eq_false_iff, Bool.not_eq_true', Bool.not_eq_false', Bool.not_not, Int.not_lt, Int.not_le] at hc11
            refine s_off rfl rfl rfl rfl rfl rfl <|
              s_off rfl rfl rfl rfl rfl rfl <|
              s_off rfl rfl rfl rfl rfl rfl <|
              s_off rfl rfl rfl rfl rfl rfl <|
              s_v (r_pickF rfl rfl rfl) rfl rfl rfl <| ?_
            refine w_eq (t := 36) (v := .bool ((p.shut && !decide ((p.b.length : Int) = 0)))) rfl (by rw [hc110]; first | simp only [Bool.true_and, Bool.false_and, Bool.true_or, Bool.false_or] | rfl) ?_
            exact w_only [36, 0, 1, 2, 3, 12] rfl K12
        refine s_v (r_assign rfl) rfl rfl rfl <|
          s_end <|
          c_if rfl (fun hc13 => ?_) (fun hc13 => ?_)
        · try simp only [decide_eq_true_eq, decide_eq_false_iff_not, Bool.and_eq_true, Bool.and_eq_false_imp, Bool.or_eq_true, Bool.or_eq_false_iff, Bool.not_eq_true', Bool.not_eq_false', Bool.not_not, Int.not_lt, Int.not_le] at hc13
          refine c_region <|
            s_v (r_assign rfl) rfl rfl rfl <|
            s_end <|
            c_ret <|
            e_blkR <|
            e_thenR <|
            f_retV S3 rfl (.tmp rfl .nil) ?_
          simp only [packV, pipeCheck]
          grind
        · try simp only [decide_eq_true_eq, decide_eq_false_iff_not, Bool.and_eq_true, Bool.and_eq_false_imp, Bool.or_eq_true, Bool.or_eq_false_iff, Bool.not_eq_true', Bool.not_eq_false', Bool.not_not, Int.not_lt, Int.not_le] at hc13
          refine c_skip <|
            e_blk <|
            e_then <|
            c_region <|
            s_v (r_assign rfl) rfl rfl rfl <|
            s_end <|
            c_ret <|
            f_retV S3 rfl (.tmp rfl .nil) ?_
          simp only [packV, pipeCheck]
          grind
    · try simp only [decide_eq_true_eq, decide_eq_false_iff_not, Bool.and_eq_true, Bool.and_eq_false_imp, Bool.or_eq_true, Bool.or_eq_false_iff, Bool.not_eq_true', Bool.not_eq_false', Bool.not_not, Int.not_lt, Int.not_le] at hc9
      refine c_region1 <|
        s_v (r_fieldAddr0 rfl fld29_0) rfl rfl rfl <|
        s_v (r_get 0 S3 ty27 rfl rfl rfl) rfl rfl rfl <|
        s_v (r_len rfl Try.underlying27) rfl rfl rfl <|
        s_v (r_ii rfl rfl b_gtr) rfl rfl rfl <|
        s_v (r_assign rfl) rfl rfl rfl <|
        s_nil <|
        e_then <|
        c_if rfl (fun hc14 => ?_) (fun hc14 => ?_)
      · try simp only [decide_eq_true_eq, decide_eq_false_iff_not, Bool.and_eq_true, Bool.and_eq_false_imp, Bool.or_eq_true, Bool.or_eq_false_iff, Bool.not_eq_true', Bool.not_eq_false', Bool.not_not, Int.not_lt, Int.not_le] at hc14
        refine c_region <|
          s_v (r_assign rfl) rfl rfl rfl <|
          s_end <|
          c_ret <|
          e_blkR <|
          e_thenR <|
          f_retV S3 rfl (.tmp rfl .nil) ?_
        simp only [packV, pipeCheck]
        grind
      · try simp only [decide_eq_true_eq, decide_eq_false_iff_not, Bool.and_eq_true, Bool.and_eq_false_imp, Bool.or_eq_true, Bool.or_eq_false_iff, Bool.not_eq_true', Bool.not_eq_false', Bool.not_not, Int.not_lt, Int.not_le] at hc14
        refine c_region <|
          s_v (r_fieldAddr0 rfl fld29_3) rfl rfl rfl <|
          s_v (r_get 0 S3 ty4 rfl rfl rfl) rfl rfl rfl <|
          s_v (r_move rfl) rfl rfl rfl <| ?_
        refine j5 (L' := [(36, .bool ((p.shut && !decide ((p.b.length : Int) = 0)))), (0, .agg #[.slice oa p.b.length cap, .int .i64 p.room, .bool p.closed, .bool p.shut]), (1, .pointer (some ⟨b2, 0, none⟩)), (2, .int .i64 0), (3, .bool ((decide (p.room < 0) || decide (1000 < p.room)))), (12, .bool (decide (40000 < (p.b.length : Int))))]) ?KK16 (fun K16 => ?BK16)
        case BK16 =>
          refine w_bool (t := 31) rfl (fun hc150 => ?_) (fun hc150 => ?_)
          · have hc15 := hc150
            try simp only [decide_eq_true_eq, decide_eq_false_iff_not, Bool.and_eq_true, Bool.and_eq_false_imp, Bool.or_eq_true, Bool.or_eq_false_iff, Bool.not_eq_true', Bool.not_eq_false', Bool.not_not, Int.not_lt, Int.not_le] at hc15
            refine s_on rfl rfl rfl <|
              s_v (r_fieldAddr0 rfl fld29_0) rfl rfl rfl <|
              s_on rfl rfl rfl <|
              s_v (r_get 0 S3 ty27 rfl rfl rfl) rfl rfl rfl <|
              s_on rfl rfl rfl <|
              s_v (r_len rfl Try.underlying27) rfl rfl rfl <|
              s_on rfl rfl rfl <|
              s_v (r_ii rfl rfl b_neq) rfl rfl rfl <|
              s_v (r_pickT rfl rfl rfl) rfl rfl rfl <| ?_
            refine w_eq (t := 36) (v := .bool ((p.shut && !decide ((p.b.length : Int) = 0)))) rfl (by rw [hc150]; first | simp only [Bool.true_and, Bool.false_and, Bool.true_or, Bool.false_or] | rfl) ?_
            exact w_only [36, 0, 1, 2, 3, 12] rfl K16
          · have hc15 := hc150
            try simp only [decide_eq_true_eq, decide_eq_false_iff_not, Bool.and_eq_true, Bool.and_eq_false_imp, Bool.or_eq_true, Bool.or_eq_false_iff, Bool.not_eq_true', Bool.not_eq_false', Bool.not_not, Int.not_lt, Int.not_le] at hc15
            refine s_off rfl rfl rfl rfl rfl rfl <|
              s_off rfl rfl rfl rfl rfl rfl <|
              s_off rfl rfl rfl rfl rfl rfl <|
              s_off rfl rfl rfl rfl rfl rfl <|
              s_v (r_pickF rfl rfl rfl) rfl rfl rfl <| ?_
            refine w_eq (t := 36) (v := .bool ((p.shut && !decide ((p.b.length : Int) = 0)))) rfl (by rw [hc150]; first | simp only [Bool.true_and, Bool.false_and, Bool.true_or, Bool.false_or] | rfl) ?_
            exact w_only [36, 0, 1, 2, 3, 12] rfl K16
        refine s_v (r_assign rfl) rfl rfl rfl <|
          s_end <|
          c_if rfl (fun hc17 => ?_) (fun hc17 => ?_)
        · try simp only [decide_eq_true_eq, decide_eq_false_iff_not, Bool.and_eq_true, Bool.and_eq_false_imp, Bool.or_eq_true, Bool.or_eq_false_iff, Bool.not_eq_true', Bool.not_eq_false', Bool.not_not, Int.not_lt, Int.not_le] at hc17
          refine c_region <|
            s_v (r_assign rfl) rfl rfl rfl <|
            s_end <|
            c_ret <|
            e_blkR <|
            e_thenR <|
            f_retV S3 rfl (.tmp rfl .nil) ?_
          simp only [packV, pipeCheck]
          grind
        · try simp only [decide_eq_true_eq, decide_eq_false_iff_not, Bool.and_eq_true, Bool.and_eq_false_imp, Bool.or_eq_true, Bool.or_eq_false_iff, Bool.not_eq_true', Bool.not_eq_false', Bool.not_not, Int.not_lt, Int.not_le] at hc17
          refine c_skip <|
            e_blk <|
            e_then <|
            c_region <|
            s_v (r_assign rfl) rfl rfl rfl <|
            s_end <|
            c_ret <|
            f_retV S3 rfl (.tmp rfl .nil) ?_
          simp only [packV, pipeCheck]
          grind

set_option maxRecDepth 20000 in
theorem ref_SamePipe (w : World) (m : Mem) (hm : Sub m w) (p q : PipeS) {oa ob : Option Addr} {cap cbp : Nat} (F : Bys m oa cap p.b) (G : Bys m ob cbp q.b) :
    Calls Try.prog 21 #[.agg #[.slice oa p.b.length cap, .int .i64 p.room, .bool p.closed, .bool p.shut], .agg #[.slice ob q.b.length cbp, .int .i64 q.room, .bool q.closed, .bool q.shut]] w (RetV [] w (.bool (decide (p = q)))) := by
  refine enterW (args := [.agg #[.slice oa p.b.length cap, .int .i64 p.room, .bool p.closed, .bool p.shut], .agg #[.slice ob q.b.length cbp, .int .i64 q.room, .bool q.closed, .bool q.shut]]) Try.func21 rfl Try.ntmps21 rfl rfl ?_
  have S := St.start hm
  refine c_region <|
    s_box (cs := #[.slice oa p.b.length cap, .int .i64 p.room, .bool p.closed, .bool p.shut]) S rfl rfl rfl fun w1 b2 S3 =>
    s_box (cs := #[.slice ob q.b.length cbp, .int .i64 q.room, .bool q.closed, .bool q.shut]) S3 rfl rfl rfl fun w4 b5 S6 =>
    s_v (r_assign rfl) rfl rfl rfl <|
    s_end <|
    c_region <|
    s_v (r_fieldAddr0 rfl fld29_0) rfl rfl rfl <|
    s_v (r_get 1 S6 ty27 rfl rfl rfl) rfl rfl rfl <|
    s_v (r_fieldAddr0 rfl fld29_0) rfl rfl rfl <|
    s_v (r_get 0 S6 ty27 rfl rfl rfl) rfl rfl rfl <|
    s_callV S6 rfl call15 (Equal_bytes _ _ S6.mem F G) rfl rfl fun w7 S8 =>
    s_v (r_move rfl) rfl rfl rfl <| ?_
  refine j6 (L' := [(16, .bool ((decide (p.b = q.b) && decide (p.room = q.room)))), (0, .agg #[.slice oa p.b.length cap, .int .i64 p.room, .bool p.closed, .bool p.shut]), (1, .agg #[.slice ob q.b.length cbp, .int .i64 q.room, .bool q.closed, .bool q.shut]), (2, .pointer (some ⟨b2, 0, none⟩)), (3, .pointer (some ⟨b5, 0, none⟩)), (4, .bool false)]) ?KK10 (fun K10 => ?BK10)
  case BK10 =>
    refine w_bool (t := 10) rfl (fun hc90 => ?_) (fun hc90 => ?_)
    · have hc9 := hc90
      try simp only [decide_eq_true_eq, decide_eq_false_iff_not, Bool.and_eq_true, Bool.and_eq_false_imp, Bool.or_eq_true, Bool.or_eq_false_iff, Bool.not_eq_true', Bool.not_eq_false', Bool.not_not, Int.not_lt, Int.not_le] at hc9
      refine s_on rfl rfl rfl <|
        s_v (r_fieldAddr0 rfl fld29_1) rfl rfl rfl <|
        s_on rfl rfl rfl <|
        s_v (r_get 1 S8 ty3 rfl rfl rfl) rfl rfl rfl <|
        s_on rfl rfl rfl <|
        s_v (r_fieldAddr0 rfl fld29_1) rfl rfl rfl <|
        s_on rfl rfl rfl <|
        s_v (r_get 0 S8 ty3 rfl rfl rfl) rfl rfl rfl <|
        s_on rfl rfl rfl <|
        s_v (r_ii rfl rfl b_eql) rfl rfl rfl <|
        s_v (r_pickT rfl rfl rfl) rfl rfl rfl <| ?_
      refine w_eq (t := 16) (v := .bool ((decide (p.b = q.b) && decide (p.room = q.room)))) rfl (by rw [hc90]; first | simp only [Bool.true_and, Bool.false_and, Bool.true_or, Bool.false_or] | rfl) ?_
      exact w_only [16, 0, 1, 2, 3, 4] rfl K10
    · have hc9 := hc90
      try simp only [decide_eq_true_eq, decide_eq_false_iff_not, Bool.and_eq_true, Bool.and_eq_false_imp, Bool.or_eq_true, Bool.or_eq_false_iff, Bool.not_eq_true', Bool.not_eq_false', Bool.not_not, Int.not_lt, Int.not_le] at hc9
      refine s_off rfl rfl rfl rfl rfl rfl <|
        s_off rfl rfl rfl rfl rfl rfl <|
        s_off rfl rfl rfl rfl rfl rfl <|
        s_off rfl rfl rfl rfl rfl rfl <|
        s_off rfl rfl rfl rfl rfl rfl <|
        s_v (r_pickF rfl rfl rfl) rfl rfl rfl <| ?_
      refine w_eq (t := 16) (v := .bool ((decide (p.b = q.b) && decide (p.room = q.room)))) rfl (by rw [hc90]; first | simp only [Bool.true_and, Bool.false_and, Bool.true_or, Bool.false_or] | rfl) ?_
      exact w_only [16, 0, 1, 2, 3, 4] rfl K10
  refine s_v (r_move rfl) rfl rfl rfl <| ?_
  refine j6 (L' := [(23, .bool (((decide (p.b = q.b) && decide (p.room = q.room)) && (p.closed == q.closed)))), (0, .agg #[.slice oa p.b.length cap, .int .i64 p.room, .bool p.closed, .bool p.shut]), (1, .agg #[.slice ob q.b.length cbp, .int .i64 q.room, .bool q.closed, .bool q.shut]), (2, .pointer (some ⟨b2, 0, none⟩)), (3, .pointer (some ⟨b5, 0, none⟩)), (4, .bool false)]) ?KK12 (fun K12 => ?BK12)
  case BK12 =>
    refine w_bool (t := 17) rfl (fun hc110 => ?_) (fun hc110 => ?_)
    · have hc11 := hc110
      try simp only [decide_eq_true_eq, decide_eq_false_iff_not, Bool.and_eq_true, Bool.and_eq_false_imp, Bool.or_eq_true, Bool.or_eq_false_iff, Bool.not_eq_true', Bool.not_eq_false', Bool.not_not, Int.not_lt, Int.not_le] at hc11
      refine s_on rfl rfl rfl <|
        s_v (r_fieldAddr0 rfl fld29_2) rfl rfl rfl <|
        s_on rfl rfl rfl <|
        s_v (r_get 1 S8 ty4 rfl rfl rfl) rfl rfl rfl <|
        s_on rfl rfl rfl <|
        s_v (r_fieldAddr0 rfl fld29_2) rfl rfl rfl <|
        s_on rfl rfl rfl <|
        s_v (r_get 0 S8 ty4 rfl rfl rfl) rfl rfl rfl <|
        s_on rfl rfl rfl <|
        s_v (r_bb rfl rfl (bb_eql Try.underlying4)) rfl rfl rfl <|
        s_v (r_pickT rfl rfl rfl) rfl rfl rfl <| ?_
      refine w_eq (t := 23) (v := .bool (((decide (p.b = q.b) && decide (p.room = q.room)) && (p.closed == q.closed)))) rfl (by rw [hc110]; first | simp only [Bool.true_and, Bool.false_and, Bool.true_or, Bool.false_or] | rfl) ?_
      exact w_only [23, 0, 1, 2, 3, 4] rfl K12
    · have hc11 := hc110
      try simp only [decide_eq_true_eq, decide_eq_false_iff_not, Bool.and_eq_true, Bool.and_eq_false_imp, Bool.or_eq_true, Bool.or_eq_false_iff, Bool.not_eq_true', Bool.not_eq_false', Bool.not_not, Int.not_lt, Int.not_le] at hc11
      refine s_off rfl rfl rfl rfl rfl rfl <|
        s_off rfl rfl rfl rfl rfl rfl <|
        s_off rfl rfl rfl rfl rfl rfl <|
        s_off rfl rfl rfl rfl rfl rfl <|
        s_off rfl rfl rfl rfl rfl rfl <|
        s_v (r_pickF rfl rfl rfl) rfl rfl rfl <| ?_
      refine w_eq (t := 23) (v := .bool (((decide (p.b = q.b) && decide (p.room = q.room)) && (p.closed == q.closed)))) rfl (by rw [hc110]; first | simp only [Bool.true_and, Bool.false_and, Bool.true_or, Bool.false_or] | rfl) ?_
      exact w_only [23, 0, 1, 2, 3, 4] rfl K12
  refine s_v (r_move rfl) rfl rfl rfl <| ?_
  refine j6 (L' := [(30, .bool ((((decide (p.b = q.b) && decide (p.room = q.room)) && (p.closed == q.closed)) && (p.shut == q.shut)))), (0, .agg #[.slice oa p.b.length cap, .int .i64 p.room, .bool p.closed, .bool p.shut]), (1, .agg #[.slice ob q.b.length cbp, .int .i64 q.room, .bool q.closed, .bool q.shut]), (2, .pointer (some ⟨b2, 0, none⟩)), (3, .pointer (some ⟨b5, 0, none⟩)), (4, .bool false)]) ?KK14 (fun K14 => ?BK14)
  case BK14 =>
    refine w_bool (t := 24) rfl (fun hc130 => ?_) (fun hc130 => ?_)
    · have hc13 := hc130
      try simp only [decide_eq_true_eq, decide_eq_false_iff_not, Bool.and_eq_true, Bool.and_eq_false_imp, Bool.or_eq_true, Bool.or_eq_false_iff, Bool.not_eq_true', Bool.not_eq_false', Bool.not_not, Int.not_lt, Int.not_le] at hc13
      refine s_on rfl rfl rfl <|
        s_v (r_fieldAddr0 rfl fld29_3) rfl rfl rfl <|
        s_on rfl rfl rfl <|
        s_v (r_get 1 S8 ty4 rfl rfl rfl) rfl rfl rfl <|
        s_on rfl rfl rfl <|
        s_v (r_fieldAddr0 rfl fld29_3) rfl rfl rfl <|
        s_on rfl rfl rfl <|
        s_v (r_get 0 S8 ty4 rfl rfl rfl) rfl rfl rfl <|
        s_on rfl rfl rfl <|
        s_v (r_bb rfl rfl (bb_eql Try.underlying4)) rfl rfl rfl <|
        s_v (r_pickT rfl rfl rfl) rfl rfl rfl <| ?_
      refine w_eq (t := 30) (v := .bool ((((decide (p.b = q.b) && decide (p.room = q.room)) && (p.closed == q.closed)) && (p.shut == q.shut)))) rfl (by rw [hc130]; first | simp only [Bool.true_and, Bool.false_and, Bool.true_or, Bool.false_or] | rfl) ?_
      exact w_only [30, 0, 1, 2, 3, 4] rfl K14
    · have hc13 := hc130
      try simp only [decide_eq_true_eq, decide_eq_false_iff_not, Bool.and_eq_true, Bool.and_eq_false_imp, Bool.or_eq_true, Bool.or_eq_false_iff, Bool.not_eq_true', Bool.not_eq_false', Bool.not_not, Int.not_lt, Int.not_le] at hc13
      refine s_off rfl rfl rfl rfl rfl rfl <|
        s_off rfl rfl rfl rfl rfl rfl <|
        s_off rfl rfl rfl rfl rfl rfl <|
        s_off rfl rfl rfl rfl rfl rfl <|
        s_off rfl rfl rfl rfl rfl rfl <|
        s_v (r_pickF rfl rfl rfl) rfl rfl rfl <| ?_
      refine w_eq (t := 30) (v := .bool ((((decide (p.b = q.b) && decide (p.room = q.room)) && (p.closed == q.closed)) && (p.shut == q.shut)))) rfl (by rw [hc130]; first | simp only [Bool.true_and, Bool.false_and, Bool.true_or, Bool.false_or] | rfl) ?_
      exact w_only [30, 0, 1, 2, 3, 4] rfl K14
  refine s_v (r_assign rfl) rfl rfl rfl <|
    s_end <|
    c_ret <|
    f_retV S8 rfl (.tmp rfl .nil) ?_
  obtain ⟨pb, pr, pc, ps⟩ := p
  obtain ⟨qb, qr, qc, qs⟩ := q
  simp only [packV, PipeS.mk.injEq]
  congr 1
  grind

set_option maxRecDepth 20000 in
theorem ref_Written (w : World) (m : Mem) (hm : Sub m w) (p : PipeS) {oa : Option Addr} {cap : Nat} (F : Bys m oa cap p.b) (bs : List UInt8) {ob : Option Addr} {cbp : Nat} (Fb : Bys m ob cbp bs) (hc : pipeCheck p = 0) :
    Calls Try.prog 22 #[.agg #[.slice oa p.b.length cap, .int .i64 p.room, .bool p.closed, .bool p.shut], .slice ob bs.length cbp] w (Ret [] m w fun m' v => ∃ u, v = .tuple #[u, .int .i64 (pipeWrite p bs).2.1, .int .i64 (pipeWrite p bs).2.2] ∧ IsPipe m' u (pipeWrite p bs).1) := by
  have l1 := Fb.len1 (by omega)
  have l2 := F.len1 (by omega)
  obtain ⟨q1, q2, q3, q4, q5⟩ := pipeCheck_zero hc
  refine enterW (args := [.agg #[.slice oa p.b.length cap, .int .i64 p.room, .bool p.closed, .bool p.shut], .slice ob bs.length cbp]) Try.func22 rfl Try.ntmps22 rfl rfl ?_
  have S := St.start hm
  refine c_region <|
    s_box (cs := #[.slice oa p.b.length cap, .int .i64 p.room, .bool p.closed, .bool p.shut]) S rfl rfl rfl fun w1 b2 S3 =>
    s_alloc (cs := #[.slice none 0 0, .int .i64 0, .bool false, .bool false]) S3 ty29 rfl rfl fun w4 b5 S6 =>
    s_v (r_assign rfl) rfl rfl rfl <|
    s_v (r_assign rfl) rfl rfl rfl <|
    s_end <|
    c_seq <|
    c_region <|
    s_v (r_fieldAddr0 rfl fld29_2) rfl rfl rfl <|
    s_v (r_get 1 S6 ty4 rfl rfl rfl) rfl rfl rfl <|
    s_end <|
    c_if rfl (fun hc7 => ?_) (fun hc7 => ?_)
  · try simp only [decide_eq_true_eq, decide_eq_false_iff_not, Bool.and_eq_true, Bool.and_eq_false_imp, Bool.or_eq_true, Bool.or_eq_false_iff, Bool.not_eq_true', Bool.not_eq_false', Bool.not_not, Int.not_lt, Int.not_le] at hc7
    refine c_region <|
      s_v (r_build (cs := #[.slice none 0 0, .int .i64 0, .bool false, .bool false]) rfl (fun _ => by kernel_rfl)) rfl rfl rfl <|
      s_setk (R' := ((b5, .cells #[.slice none 0 0, .int .i64 0, .bool false, .bool false] 29) :: ((b2, .cells #[.slice oa p.b.length cap, .int .i64 p.room, .bool p.closed, .bool p.shut] 29) :: []))) 0 S6 ty29 rfl rfl rfl (by simp [Value.oneCell', str]) rfl rfl rfl fun w8 S9 =>
      s_v (r_assign rfl) rfl rfl rfl <|
      s_v (r_assign rfl) rfl rfl rfl <|
      s_end <|
      c_ret <|
      e_thenR <|
      f_ret S9 rfl (Res.box (us := [.slice none 0 0, .int .i64 0, .bool false, .bool false]) 0 S9 rfl ty29 rfl rfl rfl (.tmp rfl (.tmp rfl .nil))) fun hle => ?_
    have e : pipeWrite p bs = (zPipe, 0, 7) := by unfold pipeWrite; rw [if_neg (by simp [hc]), if_pos hc7]
    rw [e]; exact ⟨_, rfl, IsPipe.zero⟩
  · try simp only [decide_eq_true_eq, decide_eq_false_iff_not, Bool.and_eq_true, Bool.and_eq_false_imp, Bool.or_eq_true, Bool.or_eq_false_iff, Bool.not_eq_true', Bool.not_eq_false', Bool.not_not, Int.not_lt, Int.not_le] at hc7
    refine c_skip <|
      e_then <|
      c_seq <|
      c_region <|
      s_v (r_fieldAddr0 rfl fld29_3) rfl rfl rfl <|
      s_v (r_get 1 S6 ty4 rfl rfl rfl) rfl rfl rfl <|
      s_end <|
      c_if rfl (fun hc10 => ?_) (fun hc10 => ?_)
    · try simp only [decide_eq_true_eq, decide_eq_false_iff_not, Bool.and_eq_true, Bool.and_eq_false_imp, Bool.or_eq_true, Bool.or_eq_false_iff, Bool.not_eq_true', Bool.not_eq_false', Bool.not_not, Int.not_lt, Int.not_le] at hc10
      refine c_region <|
        s_v (r_getk 1 S6 ty29 rfl rfl rfl rfl) rfl rfl rfl <|
        s_v (r_move rfl) rfl rfl rfl <|
        s_v (r_len rfl Try.underlying27) rfl rfl rfl <|
        s_setk (R' := ((b5, .cells #[.slice oa p.b.length cap, .int .i64 p.room, .bool p.closed, .bool p.shut] 29) :: ((b2, .cells #[.slice oa p.b.length cap, .int .i64 p.room, .bool p.closed, .bool p.shut] 29) :: []))) 0 S6 ty29 rfl rfl rfl (by simp [Value.oneCell', str]) rfl rfl rfl fun w11 S12 =>
        s_v (r_assign rfl) rfl rfl rfl <|
        s_v (r_assign rfl) rfl rfl rfl <|
        s_end <|
        c_ret <|
        e_thenR <|
        f_ret S12 rfl (Res.box (us := [.slice oa p.b.length cap, .int .i64 p.room, .bool p.closed, .bool p.shut]) 0 S12 rfl ty29 rfl rfl rfl (.tmp rfl (.tmp rfl .nil))) fun hle => ?_
      have e : pipeWrite p bs = (p, (bs.length : Int), 0) := by unfold pipeWrite pipePut pipeTakes; rw [if_neg (by simp [hc]), if_neg (by simp [hc7]), if_pos hc10, if_pos hc10]
      rw [e]; exact ⟨_, rfl, _, _, rfl, F.up hle⟩
    · try simp only [decide_eq_true_eq, decide_eq_false_iff_not, Bool.and_eq_true, Bool.and_eq_false_imp, Bool.or_eq_true, Bool.or_eq_false_iff, Bool.not_eq_true', Bool.not_eq_false', Bool.not_not, Int.not_lt, Int.not_le] at hc10
      refine c_skip <|
        e_then <|
        c_region <|
        s_v (r_assign rfl) rfl rfl rfl <|
        s_end <|
        c_seq <|
        c_region <|
        s_v (r_fieldAddr0 rfl fld29_1) rfl rfl rfl <|
        s_v (r_get 1 S6 ty3 rfl rfl rfl) rfl rfl rfl <|
        s_v (r_ii rfl rfl b_neq) rfl rfl rfl <|
        s_end <|
        c_if rfl (fun hc13 => ?_) (fun hc13 => ?_)
      · try simp only [decide_eq_true_eq, decide_eq_false_iff_not, Bool.and_eq_true, Bool.and_eq_false_imp, Bool.or_eq_true, Bool.or_eq_false_iff, Bool.not_eq_true', Bool.not_eq_false', Bool.not_not, Int.not_lt, Int.not_le] at hc13
        refine c_region1 <|
          s_v (r_fieldAddr0 rfl fld29_1) rfl rfl rfl <|
          s_v (r_get 1 S6 ty3 rfl rfl rfl) rfl rfl rfl <|
          s_v (r_assign rfl) rfl rfl rfl <|
          s_nil <|
          e_then <|
          c_region <|
          s_v (r_assign rfl) rfl rfl rfl <|
          s_end <|
          c_region <|
          s_buildSlice (cs := []) (E := 5) S6 rfl (fun _ => by kernel_rfl) rfl fun w14 b14 hg14 S14 => ?_
        have S14 : St _ _ _ ([(b5, .cells #[.slice none 0 0, .int .i64 0, .bool false, .bool false] 29), (b2, .cells #[.slice oa p.b.length cap, .int .i64 p.room, .bool p.closed, .bool p.shut] 29)] ++ ([(b14, .cells #[] 5)] ++ [])) _ _ := St.swap (R1 := [(b14, .cells #[] 5)]) (R2 := [(b5, .cells #[.slice none 0 0, .int .i64 0, .bool false, .bool false] 29), (b2, .cells #[.slice oa p.b.length cap, .int .i64 p.room, .bool p.closed, .bool p.shut] 29)]) (R := []) S14
        have O14 : Own 1 1 (Enc eByte) m [(b14, .cells #[] 5)] (.slice (some ⟨b14, 0, none⟩) ([] : List UInt8).length 0) [] := ⟨⟨[], OwnV.row rfl rfl (Nat.le_refl _) rfl (by omega), rfl⟩, by simp⟩
        obtain ⟨Ro14, eR14⟩ : ∃ r, r = [(b14, Obj.cells #[] 5)] := ⟨_, rfl⟩
        rw [← eR14] at S14 O14
        refine s_v (r_fieldAddr0 rfl fld29_0) rfl rfl rfl <|
          s_v (r_get 1 S14 ty27 rfl rfl rfl) rfl rfl rfl <|
          s_appS (A := [(b5, .cells #[.slice none 0 0, .int .i64 0, .bool false, .bool false] 29), (b2, .cells #[.slice oa p.b.length cap, .int .i64 p.room, .bool p.closed, .bool p.shut] 29)]) (Ro := Ro14) (R := []) (xs := ([] : List UInt8)) F Try.underlying27 ty5 rfl (by omega) Try.underlying27 rfl S14 O14 rfl rfl (by simp; omega) rfl fun Ro15 v15 w15 S15 O15 => ?_
        obtain ⟨oa15, cap15, rfl, lc15, bc15⟩ := O15.slice
        refine s_v (r_assign rfl) rfl rfl rfl <|
          s_end <|
          c_seq <|
          c_block <|
          c_loop (fun k L w' => ∃ (i : Nat) (Rol : Boxes) (ool : Option Addr) (col : Nat) (acc : List UInt8), L = [(1, .slice ob bs.length cbp), (2, .pointer (some ⟨b2, 0, none⟩)), (4, .pointer (some ⟨b5, 0, none⟩)), (7, .int .i64 p.room), (8, .int .i64 (((i : Nat) : Int))), (9, .slice ool acc.length col)] ∧ k = bs.length - i ∧ St [] w m ((b5, .cells #[.slice none 0 0, .int .i64 0, .bool false, .bool false] 29) :: ((b2, .cells #[.slice oa p.b.length cap, .int .i64 p.room, .bool p.closed, .bool p.shut] 29) :: (Rol ++ []))) m w' ∧ Own 1 1 (Enc eByte) m Rol (.slice ool acc.length col) acc ∧ i ≤ bs.length ∧ acc = p.b ++ bs.take i ∧ acc.length = p.b.length + i ∧ (i = 0 ∨ (acc.length : Int) ≤ p.room)) [1, 2, 4, 7, 8, 9] rfl ⟨0, Ro15, oa15, cap15, (([] : List UInt8) ++ p.b), rfl, rfl, S15, O15, Nat.zero_le _, by simp, by simp, .inl rfl⟩ ?_
        rintro _ _ w16 ⟨i, Rol, ool, col, acc, rfl, rfl, S16, Ol, hi, hacc, hal, hro⟩
        refine c_seq <|
          c_region <|
          s_v (r_move rfl) rfl rfl rfl <|
          s_v (r_move rfl) rfl rfl rfl <|
          s_v (r_len rfl Try.underlying27) rfl rfl rfl <|
          s_v (r_ii rfl rfl b_lss) rfl rfl rfl <|
          s_v (r_move rfl) rfl rfl rfl <| ?_
        refine j5 (L' := [(36, .bool ((decide (((i : Nat) : Int) < (bs.length : Int)) && decide ((acc.length : Int) < p.room)))), (1, .slice ob bs.length cbp), (2, .pointer (some ⟨b2, 0, none⟩)), (4, .pointer (some ⟨b5, 0, none⟩)), (7, .int .i64 p.room), (8, .int .i64 (((i : Nat) : Int))), (9, .slice ool acc.length col)]) ?KK18 (fun K18 => ?BK18)
        case BK18 =>
          refine w_bool (t := 31) rfl (fun hc170 => ?_) (fun hc170 => ?_)
          · have hc17 := hc170
            try simp only [decide_eq_true_eq, decide_eq_false_iff_not, Bool.and_eq_true, Bool.and_eq_false_imp, Bool.or_eq_true, Bool.or_eq_false_iff, Bool.not_eq_true', Bool.not_eq_false', Bool.not_not, Int.not_lt, Int.not_le] at hc17
            refine s_on rfl rfl rfl <|
              s_v (r_move rfl) rfl rfl rfl <|
              s_on rfl rfl rfl <|
              s_v (r_len rfl Try.underlying27) rfl rfl rfl <|
              s_on rfl rfl rfl <|
              s_v (r_move rfl) rfl rfl rfl <|
              s_on rfl rfl rfl <|
              s_v (r_ii rfl rfl b_lss) rfl rfl rfl <|
              s_v (r_pickT rfl rfl rfl) rfl rfl rfl <| ?_
            refine w_eq (t := 36) (v := .bool ((decide (((i : Nat) : Int) < (bs.length : Int)) && decide ((acc.length : Int) < p.room)))) rfl (by rw [hc170]; first | simp only [Bool.true_and, Bool.false_and, Bool.true_or, Bool.false_or] | rfl) ?_
            exact w_only [36, 1, 2, 4, 7, 8, 9] rfl K18
          · have hc17 := hc170
            try simp only [decide_eq_true_eq, decide_eq_false_iff_not, Bool.and_eq_true, Bool.and_eq_false_imp, Bool.or_eq_true, Bool.or_eq_false_iff, Bool.not_eq_true', Bool.not_eq_false', Bool.not_not, Int.not_lt, Int.not_le] at hc17
            refine s_off rfl rfl rfl rfl rfl rfl <|
              s_off rfl rfl rfl rfl rfl rfl <|
              s_off rfl rfl rfl rfl rfl rfl <|
              s_off rfl rfl rfl rfl rfl rfl <|
              s_v (r_pickF rfl rfl rfl) rfl rfl rfl <| ?_
            refine w_eq (t := 36) (v := .bool ((decide (((i : Nat) : Int) < (bs.length : Int)) && decide ((acc.length : Int) < p.room)))) rfl (by rw [hc170]; first | simp only [Bool.true_and, Bool.false_and, Bool.true_or, Bool.false_or] | rfl) ?_
            exact w_only [36, 1, 2, 4, 7, 8, 9] rfl K18
        refine s_end <|
          c_if rfl (fun hc19 => ?_) (fun hc19 => ?_)
        · try simp only [decide_eq_true_eq, decide_eq_false_iff_not, Bool.and_eq_true, Bool.and_eq_false_imp, Bool.or_eq_true, Bool.or_eq_false_iff, Bool.not_eq_true', Bool.not_eq_false', Bool.not_not, Int.not_lt, Int.not_le] at hc19
          refine c_skip <|
            e_then <|
            c_block <|
            c_region <|
            s_v (r_move rfl) rfl rfl rfl <|
            s_v (r_move rfl) rfl rfl rfl <|
            s_v (r_move rfl) rfl rfl rfl <| ?_
          obtain ⟨b20, o20, e20, cs20, l20, r20, c20⟩ := Fb.el i (by omega)
          obtain rfl := r20
          subst e20
          refine s_v (r_indexAddr (i := i) rfl rfl (by omega) (by omega) Try.underlying27 ty5) rfl rfl rfl <|
            s_v (r_el1 rfl ty5 S16.mem c20) rfl rfl rfl <|
            s_app1 (A := [(b5, .cells #[.slice none 0 0, .int .i64 0, .bool false, .bool false] 29), (b2, .cells #[.slice oa p.b.length cap, .int .i64 p.room, .bool p.closed, .bool p.shut] 29)]) (Ro := Rol) (R := []) (xs := acc) [.int .u8 ((UInt8.toNat (bs[i]) : Int))] (bs[i]) Try.underlying27 ty5 rfl (by omega) S16 Ol rfl (fun _ => rfl) rfl (fun _ => by kernel_rfl) rfl (rfl) (by simp; omega) rfl rfl fun Ro21 v21 w21 u21 S21 O21 => ?_
          obtain ⟨oa21, cap21, rfl, lc21, bc21⟩ := O21.slice
          refine s_v (r_assign rfl) rfl rfl rfl <|
            s_end <|
            c_region1 <|
            s_v (r_move rfl) rfl rfl rfl <|
            s_v (r_ii rfl rfl (b_add (by omega))) rfl rfl rfl <|
            s_v (r_assign rfl) rfl rfl rfl <|
            s_nil <|
            e_blk <|
            e_then <| ?_
          refine e_again (k' := bs.length - (i + 1)) [1, 2, 4, 7, 8, 9] (by omega) rfl ⟨i + 1, Ro21, oa21, cap21, (acc ++ [(bs[i])]), rfl, rfl, S21, O21, by omega, snoc_take hacc _, by simp; omega, .inr (by simp; omega)⟩ 
        · try simp only [decide_eq_true_eq, decide_eq_false_iff_not, Bool.and_eq_true, Bool.and_eq_false_imp, Bool.or_eq_true, Bool.or_eq_false_iff, Bool.not_eq_true', Bool.not_eq_false', Bool.not_not, Int.not_lt, Int.not_le] at hc19
          refine c_exit <|
            e_thenX <|
            e_thenX <|
            e_blkX <|
            e_then <|
            c_region <|
            s_v (r_move rfl) rfl rfl rfl <|
            s_v (r_fieldAddr0 rfl fld29_0) rfl rfl rfl <|
            s_set (R' := ((b5, .cells #[.slice none 0 0, .int .i64 0, .bool false, .bool false] 29) :: ((b2, .cells #[.slice ool acc.length col, .int .i64 p.room, .bool p.closed, .bool p.shut] 29) :: (Rol ++ [])))) 1 S16 ty27 rfl rfl rfl rfl rfl rfl fun w22 S23 =>
            s_end <|
            c_region <|
            s_v (r_getk 1 S23 ty29 rfl rfl rfl rfl) rfl rfl rfl <|
            s_v (r_move rfl) rfl rfl rfl <|
            s_setk (R' := ((b5, .cells #[.slice ool acc.length col, .int .i64 p.room, .bool p.closed, .bool p.shut] 29) :: ((b2, .cells #[.slice ool acc.length col, .int .i64 p.room, .bool p.closed, .bool p.shut] 29) :: (Rol ++ [])))) 0 S23 ty29 rfl rfl rfl (by simp [Value.oneCell', str]) rfl rfl rfl fun w24 S25 =>
            s_v (r_assign rfl) rfl rfl rfl <|
            s_v (r_assign rfl) rfl rfl rfl <|
            s_end <|
            c_ret <| ?_
          obtain ⟨oa26, cap26, m26, e26, le26, S26, F26⟩ := Own.stay (A := [(b5, .cells #[.slice ool acc.length col, .int .i64 p.room, .bool p.closed, .bool p.shut] 29), (b2, .cells #[.slice ool acc.length col, .int .i64 p.room, .bool p.closed, .bool p.shut] 29)]) (R := []) Ol S25 (by simp)
          injection e26 with e26a e26b e26c; subst e26a e26c
          replace F := F.up le26; replace Fb := Fb.up le26; replace Ol := Ol.up le26
          refine f_ret S26 rfl (Res.box (us := [.slice ool acc.length col, .int .i64 p.room, .bool p.closed, .bool p.shut]) 0 S25 rfl ty29 rfl rfl rfl (.tmp rfl (.tmp rfl .nil))) fun hle => ?_
          have hk : i = pipeTakes p bs.length := by unfold pipeTakes; rw [if_neg (by simp [hc10])]; split <;> omega
          obtain rfl := hk
          have e : pipeWrite p bs = (⟨acc, p.room, p.closed, p.shut⟩, ((pipeTakes p bs.length : Nat) : Int), 0) := by unfold pipeWrite pipePut; rw [if_neg (by simp [hc]), if_neg (by simp [hc7]), if_neg (by simp [hc10]), hacc]
          rw [e]; exact ⟨_, rfl, _, _, rfl, F26.up hle⟩
      · try simp only [decide_eq_true_eq, decide_eq_false_iff_not, Bool.and_eq_true, Bool.and_eq_false_imp, Bool.or_eq_true, Bool.or_eq_false_iff, Bool.not_eq_true', Bool.not_eq_false', Bool.not_not, Int.not_lt, Int.not_le] at hc13
        refine c_skip <|
          e_then <|
          c_region <|
          s_v (r_assign rfl) rfl rfl rfl <|
          s_end <|
          c_region <|
          s_buildSlice (cs := []) (E := 5) S6 rfl (fun _ => by kernel_rfl) rfl fun w27 b27 hg27 S27 => ?_
        have S27 : St _ _ _ ([(b5, .cells #[.slice none 0 0, .int .i64 0, .bool false, .bool false] 29), (b2, .cells #[.slice oa p.b.length cap, .int .i64 p.room, .bool p.closed, .bool p.shut] 29)] ++ ([(b27, .cells #[] 5)] ++ [])) _ _ := St.swap (R1 := [(b27, .cells #[] 5)]) (R2 := [(b5, .cells #[.slice none 0 0, .int .i64 0, .bool false, .bool false] 29), (b2, .cells #[.slice oa p.b.length cap, .int .i64 p.room, .bool p.closed, .bool p.shut] 29)]) (R := []) S27
        have O27 : Own 1 1 (Enc eByte) m [(b27, .cells #[] 5)] (.slice (some ⟨b27, 0, none⟩) ([] : List UInt8).length 0) [] := ⟨⟨[], OwnV.row rfl rfl (Nat.le_refl _) rfl (by omega), rfl⟩, by simp⟩
        obtain ⟨Ro27, eR27⟩ : ∃ r, r = [(b27, Obj.cells #[] 5)] := ⟨_, rfl⟩
        rw [← eR27] at S27 O27
        refine s_v (r_fieldAddr0 rfl fld29_0) rfl rfl rfl <|
          s_v (r_get 1 S27 ty27 rfl rfl rfl) rfl rfl rfl <|
          s_appS (A := [(b5, .cells #[.slice none 0 0, .int .i64 0, .bool false, .bool false] 29), (b2, .cells #[.slice oa p.b.length cap, .int .i64 p.room, .bool p.closed, .bool p.shut] 29)]) (Ro := Ro27) (R := []) (xs := ([] : List UInt8)) F Try.underlying27 ty5 rfl (by omega) Try.underlying27 rfl S27 O27 rfl rfl (by simp; omega) rfl fun Ro28 v28 w28 S28 O28 => ?_
        obtain ⟨oa28, cap28, rfl, lc28, bc28⟩ := O28.slice
        refine s_v (r_assign rfl) rfl rfl rfl <|
          s_end <|
          c_seq <|
          c_block <|
          c_loop (fun k L w' => ∃ (i : Nat) (Rol : Boxes) (ool : Option Addr) (col : Nat) (acc : List UInt8), L = [(1, .slice ob bs.length cbp), (2, .pointer (some ⟨b2, 0, none⟩)), (4, .pointer (some ⟨b5, 0, none⟩)), (7, .int .i64 40000), (8, .int .i64 (((i : Nat) : Int))), (9, .slice ool acc.length col)] ∧ k = bs.length - i ∧ St [] w m ((b5, .cells #[.slice none 0 0, .int .i64 0, .bool false, .bool false] 29) :: ((b2, .cells #[.slice oa p.b.length cap, .int .i64 p.room, .bool p.closed, .bool p.shut] 29) :: (Rol ++ []))) m w' ∧ Own 1 1 (Enc eByte) m Rol (.slice ool acc.length col) acc ∧ i ≤ bs.length ∧ acc = p.b ++ bs.take i ∧ acc.length = p.b.length + i ∧ (i = 0 ∨ (acc.length : Int) ≤ 40000)) [1, 2, 4, 7, 8, 9] rfl ⟨0, Ro28, oa28, cap28, (([] : List UInt8) ++ p.b), rfl, rfl, S28, O28, Nat.zero_le _, by simp, by simp, .inl rfl⟩ ?_
        rintro _ _ w29 ⟨i, Rol, ool, col, acc, rfl, rfl, S29, Ol, hi, hacc, hal, hro⟩
        refine c_seq <|
          c_region <|
          s_v (r_move rfl) rfl rfl rfl <|
          s_v (r_move rfl) rfl rfl rfl <|
          s_v (r_len rfl Try.underlying27) rfl rfl rfl <|
          s_v (r_ii rfl rfl b_lss) rfl rfl rfl <|
          s_v (r_move rfl) rfl rfl rfl <| ?_
        refine j5 (L' := [(36, .bool ((decide (((i : Nat) : Int) < (bs.length : Int)) && decide ((acc.length : Int) < 40000)))), (1, .slice ob bs.length cbp), (2, .pointer (some ⟨b2, 0, none⟩)), (4, .pointer (some ⟨b5, 0, none⟩)), (7, .int .i64 40000), (8, .int .i64 (((i : Nat) : Int))), (9, .slice ool acc.length col)]) ?KK31 (fun K31 => ?BK31)
        case BK31 =>
          refine w_bool (t := 31) rfl (fun hc300 => ?_) (fun hc300 => ?_)
          · have hc30 := hc300
            try simp only [decide_eq_true_eq, decide_eq_false_iff_not, Bool.and_eq_true, Bool.and_eq_false_imp, Bool.or_eq_true, Bool.or_eq_false_iff, Bool.not_eq_true', Bool.not_eq_false', Bool.not_not, Int.not_lt, Int.not_le] at hc30
            refine s_on rfl rfl rfl <|
              s_v (r_move rfl) rfl rfl rfl <|
              s_on rfl rfl rfl <|
              s_v (r_len rfl Try.underlying27) rfl rfl rfl <|
              s_on rfl rfl rfl <|
              s_v (r_move rfl) rfl rfl rfl <|
              s_on rfl rfl rfl <|
              s_v (r_ii rfl rfl b_lss) rfl rfl rfl <|
              s_v (r_pickT rfl rfl rfl) rfl rfl rfl <| ?_
            refine w_eq (t := 36) (v := .bool ((decide (((i : Nat) : Int) < (bs.length : Int)) && decide ((acc.length : Int) < 40000)))) rfl (by rw [hc300]; first | simp only [Bool.true_and, Bool.false_and, Bool.true_or, Bool.false_or] | rfl) ?_
            exact w_only [36, 1, 2, 4, 7, 8, 9] rfl K31
          · have hc30 := hc300
            try simp only [decide_eq_true_eq, decide_eq_false_iff_not, Bool.and_eq_true, Bool.and_eq_false_imp, Bool.or_eq_true, Bool.or_eq_false_iff, Bool.not_eq_true', Bool.not_eq_false', Bool.not_not, Int.not_lt, Int.not_le] at hc30
            refine s_off rfl rfl rfl rfl rfl rfl <|
              s_off rfl rfl rfl rfl rfl rfl <|
              s_off rfl rfl rfl rfl rfl rfl <|
              s_off rfl rfl rfl rfl rfl rfl <|
              s_v (r_pickF rfl rfl rfl) rfl rfl rfl <| ?_
            refine w_eq (t := 36) (v := .bool ((decide (((i : Nat) : Int) < (bs.length : Int)) && decide ((acc.length : Int) < 40000)))) rfl (by rw [hc300]; first | simp only [Bool.true_and, Bool.false_and, Bool.true_or, Bool.false_or] | rfl) ?_
            exact w_only [36, 1, 2, 4, 7, 8, 9] rfl K31
        refine s_end <|
          c_if rfl (fun hc32 => ?_) (fun hc32 => ?_)
        · try simp only [decide_eq_true_eq, decide_eq_false_iff_not, Bool.and_eq_true, Bool.and_eq_false_imp, Bool.or_eq_true, Bool.or_eq_false_iff, Bool.not_eq_true', Bool.not_eq_false', Bool.not_not, Int.not_lt, Int.not_le] at hc32
          refine c_skip <|
            e_then <|
            c_block <|
            c_region <|
            s_v (r_move rfl) rfl rfl rfl <|
            s_v (r_move rfl) rfl rfl rfl <|
            s_v (r_move rfl) rfl rfl rfl <| ?_
          obtain ⟨b33, o33, e33, cs33, l33, r33, c33⟩ := Fb.el i (by omega)
          obtain rfl := r33
          subst e33
          refine s_v (r_indexAddr (i := i) rfl rfl (by omega) (by omega) Try.underlying27 ty5) rfl rfl rfl <|
            s_v (r_el1 rfl ty5 S29.mem c33) rfl rfl rfl <|
            s_app1 (A := [(b5, .cells #[.slice none 0 0, .int .i64 0, .bool false, .bool false] 29), (b2, .cells #[.slice oa p.b.length cap, .int .i64 p.room, .bool p.closed, .bool p.shut] 29)]) (Ro := Rol) (R := []) (xs := acc) [.int .u8 ((UInt8.toNat (bs[i]) : Int))] (bs[i]) Try.underlying27 ty5 rfl (by omega) S29 Ol rfl (fun _ => rfl) rfl (fun _ => by kernel_rfl) rfl (rfl) (by simp; omega) rfl rfl fun Ro34 v34 w34 u34 S34 O34 => ?_
          obtain ⟨oa34, cap34, rfl, lc34, bc34⟩ := O34.slice
          refine s_v (r_assign rfl) rfl rfl rfl <|
            s_end <|
            c_region1 <|
            s_v (r_move rfl) rfl rfl rfl <|
            s_v (r_ii rfl rfl (b_add (by omega))) rfl rfl rfl <|
            s_v (r_assign rfl) rfl rfl rfl <|
            s_nil <|
            e_blk <|
            e_then <| ?_
          refine e_again (k' := bs.length - (i + 1)) [1, 2, 4, 7, 8, 9] (by omega) rfl ⟨i + 1, Ro34, oa34, cap34, (acc ++ [(bs[i])]), rfl, rfl, S34, O34, by omega, snoc_take hacc _, by simp; omega, .inr (by simp; omega)⟩ 
        · try simp only [decide_eq_true_eq, decide_eq_false_iff_not, Bool.and_eq_true, Bool.and_eq_false_imp, Bool.or_eq_true, Bool.or_eq_false_iff, Bool.not_eq_true', Bool.not_eq_false', Bool.not_not, Int.not_lt, Int.not_le] at hc32
          refine c_exit <|
            e_thenX <|
            e_thenX <|
            e_blkX <|
            e_then <|
            c_region <|
            s_v (r_move rfl) rfl rfl rfl <|
            s_v (r_fieldAddr0 rfl fld29_0) rfl rfl rfl <|
            s_set (R' := ((b5, .cells #[.slice none 0 0, .int .i64 0, .bool false, .bool false] 29) :: ((b2, .cells #[.slice ool acc.length col, .int .i64 p.room, .bool p.closed, .bool p.shut] 29) :: (Rol ++ [])))) 1 S29 ty27 rfl rfl rfl rfl rfl rfl fun w35 S36 =>
            s_end <|
            c_region <|
            s_v (r_getk 1 S36 ty29 rfl rfl rfl rfl) rfl rfl rfl <|
            s_v (r_move rfl) rfl rfl rfl <|
            s_setk (R' := ((b5, .cells #[.slice ool acc.length col, .int .i64 p.room, .bool p.closed, .bool p.shut] 29) :: ((b2, .cells #[.slice ool acc.length col, .int .i64 p.room, .bool p.closed, .bool p.shut] 29) :: (Rol ++ [])))) 0 S36 ty29 rfl rfl rfl (by simp [Value.oneCell', str]) rfl rfl rfl fun w37 S38 =>
            s_v (r_assign rfl) rfl rfl rfl <|
            s_v (r_assign rfl) rfl rfl rfl <|
            s_end <|
            c_ret <| ?_
          obtain ⟨oa39, cap39, m39, e39, le39, S39, F39⟩ := Own.stay (A := [(b5, .cells #[.slice ool acc.length col, .int .i64 p.room, .bool p.closed, .bool p.shut] 29), (b2, .cells #[.slice ool acc.length col, .int .i64 p.room, .bool p.closed, .bool p.shut] 29)]) (R := []) Ol S38 (by simp)
          injection e39 with e39a e39b e39c; subst e39a e39c
          replace F := F.up le39; replace Fb := Fb.up le39; replace Ol := Ol.up le39
          refine f_ret S39 rfl (Res.box (us := [.slice ool acc.length col, .int .i64 p.room, .bool p.closed, .bool p.shut]) 0 S38 rfl ty29 rfl rfl rfl (.tmp rfl (.tmp rfl .nil))) fun hle => ?_
          have hk : i = pipeTakes p bs.length := by unfold pipeTakes; rw [if_neg (by simp [hc10])]; split <;> omega
          obtain rfl := hk
          have e : pipeWrite p bs = (⟨acc, p.room, p.closed, p.shut⟩, ((pipeTakes p bs.length : Nat) : Int), 0) := by unfold pipeWrite pipePut; rw [if_neg (by simp [hc]), if_neg (by simp [hc7]), if_neg (by simp [hc10]), hacc]
          rw [e]; exact ⟨_, rfl, _, _, rfl, F39.up hle⟩

end Go.Proofs.Ytffljdmmambdjaa
