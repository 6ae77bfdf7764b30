/- What functions of the program come to, one behind the other (PipeSays): in every world, upon the conditions that each theorem names. -/
import Derived.Test.YtffljdmmambdjaaLaw1
set_option linter.unusedVariables false
set_option linter.unusedSimpArgs false
namespace Go.Proofs.Ytffljdmmambdjaa
open Gw Go.Proofs Go.RowKit
theorem pipeWrite_rng (p : PipeS) (bs : List UInt8) : 0 ≤ (pipeWrite p bs).2.1 ∧ (pipeWrite p bs).2.1 ≤ bs.length := by
  have := pipeTakes_le p bs.length
  unfold pipeWrite
  split
  · simp
  · split <;> simp <;> omega
theorem pipe_bad {p : PipeS} {bs : List UInt8} {most : Int} (h : pipeCheck p ≠ 0) : (pipeWrite p bs).2.1 = 0 ∧ (pipeRead p most).2.1 = [] := by
  unfold pipeWrite pipeRead; rw [if_pos h, if_pos h]; simp
theorem pipeRead_rng (p : PipeS) (most : Int) : (pipeRead p most).2.1.length ≤ p.b.length := by
  unfold pipeRead
  split
  · simp
  · split
    · simp
    · simp; omega

set_option maxRecDepth 20000 in
set_option maxHeartbeats 4000000 in
theorem law_PipeSays (w : World) (m : Mem) (hm : Sub m w) (p : PipeS) {oa : Option Addr} {cap : Nat} (F : Bys m oa cap p.b) (bs : List UInt8) {ob : Option Addr} {cbp : Nat} (Fb : Bys m ob cbp bs) {most room : Int} (hmost : I64 most) (hroom : I64 room) :
    Calls Try.prog 5 #[.agg #[.slice oa p.b.length cap, .int .i64 p.room, .bool p.closed, .bool p.shut], .slice ob bs.length cbp, .int .i64 most, .int .i64 room] w (RetV [] w (.bool true)) := by
  have l1 := Fb.len1 (by omega)
  have l2 := F.len1 (by omega)
  have r1 := pipeWrite_rng p bs
  have r2 := pipeRead_rng p most
  refine enterW (args := [.agg #[.slice oa p.b.length cap, .int .i64 p.room, .bool p.closed, .bool p.shut], .slice ob bs.length cbp, .int .i64 most, .int .i64 room]) Try.func5 rfl Try.ntmps5 rfl rfl ?_
  have S := St.start hm
  refine c_region <|
    s_box (cs := #[.slice oa p.b.length cap, .int .i64 p.room, .bool p.closed, .bool p.shut]) S rfl rfl rfl fun w1 b2 S3 =>
    s_v (r_assign rfl) rfl rfl rfl <|
    s_end <|
    c_region <|
    s_v (r_move rfl) rfl rfl rfl <|
    s_callM S3 rfl call9 (pipe_New _ _ S3.mem (room := room) (hroom)) rfl rfl fun w5 m5 u5 le5 S5 h5 => ?_
  replace F := F.up le5; replace Fb := Fb.up le5
  obtain ⟨_, rfl, oa4, ca4, rfl, P4⟩ := h5
  refine s_v (r_move rfl) rfl rfl rfl <|
    s_v (r_extract rfl rfl) rfl rfl rfl <|
    s_v (r_extract rfl rfl) rfl rfl rfl <|
    s_alloc (cs := #[.slice none 0 0, .int .i64 0, .bool false, .bool false]) S5 ty29 rfl rfl fun w6 b7 S8 =>
    s_setk (R' := ((b7, .cells #[.slice oa4 ((((pipeNew room).1).b).length) ca4, .int .i64 (((pipeNew room).1).room), .bool (((pipeNew room).1).closed), .bool (((pipeNew room).1).shut)] 29) :: ((b2, .cells #[.slice oa p.b.length cap, .int .i64 p.room, .bool p.closed, .bool p.shut] 29) :: []))) 0 S8 ty29 rfl rfl rfl (by simp [Value.oneCell', str]) rfl rfl rfl fun w9 S10 =>
    s_v (r_assign rfl) rfl rfl rfl <|
    s_end <|
    c_region <|
    s_v (r_getk 1 S10 ty29 rfl rfl rfl rfl) rfl rfl rfl <|
    s_v (r_move rfl) rfl rfl rfl <|
    s_callM S10 rfl call12 (pipe_Write _ _ S10.mem p F bs Fb) rfl rfl fun w12 m12 u12 le12 S12 h12 => ?_
  replace F := F.up le12; replace Fb := Fb.up le12; replace P4 := P4.up le12
  obtain ⟨_, rfl, oa11, ca11, rfl, P11⟩ := h12
  refine s_v (r_move rfl) rfl rfl rfl <|
    s_v (r_extract rfl rfl) rfl rfl rfl <|
    s_v (r_extract rfl rfl) rfl rfl rfl <|
    s_v (r_extract rfl rfl) rfl rfl rfl <|
    s_alloc (cs := #[.slice none 0 0, .int .i64 0, .bool false, .bool false]) S12 ty29 rfl rfl fun w13 b14 S15 =>
    s_setk (R' := ((b14, .cells #[.slice oa11 (((pipeWrite p bs).1.b).length) ca11, .int .i64 ((pipeWrite p bs).1.room), .bool ((pipeWrite p bs).1.closed), .bool ((pipeWrite p bs).1.shut)] 29) :: ((b7, .cells #[.slice oa4 ((((pipeNew room).1).b).length) ca4, .int .i64 (((pipeNew room).1).room), .bool (((pipeNew room).1).closed), .bool (((pipeNew room).1).shut)] 29) :: ((b2, .cells #[.slice oa p.b.length cap, .int .i64 p.room, .bool p.closed, .bool p.shut] 29) :: [])))) 0 S15 ty29 rfl rfl rfl (by simp [Value.oneCell', str]) rfl rfl rfl fun w16 S17 =>
    s_v (r_assign rfl) rfl rfl rfl <|
    s_v (r_assign rfl) rfl rfl rfl <|
    s_end <|
    c_region <|
    s_v (r_getk 2 S17 ty29 rfl rfl rfl rfl) rfl rfl rfl <|
    s_v (r_move rfl) rfl rfl rfl <|
    s_callM S17 rfl call13 (pipe_Read _ _ S17.mem p F (most := most) (hmost)) rfl rfl fun w19 m19 u19 le19 S19 h19 => ?_
  replace F := F.up le19; replace Fb := Fb.up le19; replace P4 := P4.up le19; replace P11 := P11.up le19
  obtain ⟨_, ob18, cb18, rfl, ⟨oa18, ca18, rfl, P18⟩, Q18⟩ := h19
  refine s_v (r_move rfl) rfl rfl rfl <|
    s_v (r_extract rfl rfl) rfl rfl rfl <|
    s_v (r_extract rfl rfl) rfl rfl rfl <|
    s_v (r_extract rfl rfl) rfl rfl rfl <|
    s_alloc (cs := #[.slice none 0 0, .int .i64 0, .bool false, .bool false]) S19 ty29 rfl rfl fun w20 b21 S22 =>
    s_setk (R' := ((b21, .cells #[.slice oa18 (((pipeRead p most).1.b).length) ca18, .int .i64 ((pipeRead p most).1.room), .bool ((pipeRead p most).1.closed), .bool ((pipeRead p most).1.shut)] 29) :: ((b14, .cells #[.slice oa11 (((pipeWrite p bs).1.b).length) ca11, .int .i64 ((pipeWrite p bs).1.room), .bool ((pipeWrite p bs).1.closed), .bool ((pipeWrite p bs).1.shut)] 29) :: ((b7, .cells #[.slice oa4 ((((pipeNew room).1).b).length) ca4, .int .i64 (((pipeNew room).1).room), .bool (((pipeNew room).1).closed), .bool (((pipeNew room).1).shut)] 29) :: ((b2, .cells #[.slice oa p.b.length cap, .int .i64 p.room, .bool p.closed, .bool p.shut] 29) :: []))))) 0 S22 ty29 rfl rfl rfl (by simp [Value.oneCell', str]) rfl rfl rfl fun w23 S24 =>
    s_v (r_assign rfl) rfl rfl rfl <|
    s_v (r_assign rfl) rfl rfl rfl <|
    s_end <|
    c_region <|
    s_v (r_getk 3 S24 ty29 rfl rfl rfl rfl) rfl rfl rfl <|
    s_callM S24 rfl call17 (pipe_Close _ _ S24.mem p F) rfl rfl fun w26 m26 u26 le26 S26 h26 => ?_
  replace F := F.up le26; replace Fb := Fb.up le26; replace P4 := P4.up le26; replace P11 := P11.up le26; replace P18 := P18.up le26; replace Q18 := Q18.up le26
  obtain ⟨_, rfl, oa25, ca25, rfl, P25⟩ := h26
  refine s_v (r_move rfl) rfl rfl rfl <|
    s_v (r_extract rfl rfl) rfl rfl rfl <|
    s_v (r_extract rfl rfl) rfl rfl rfl <|
    s_alloc (cs := #[.slice none 0 0, .int .i64 0, .bool false, .bool false]) S26 ty29 rfl rfl fun w27 b28 S29 =>
    s_setk (R' := ((b28, .cells #[.slice oa25 (((pipeClose p).1.b).length) ca25, .int .i64 ((pipeClose p).1.room), .bool ((pipeClose p).1.closed), .bool ((pipeClose p).1.shut)] 29) :: ((b21, .cells #[.slice oa18 (((pipeRead p most).1.b).length) ca18, .int .i64 ((pipeRead p most).1.room), .bool ((pipeRead p most).1.closed), .bool ((pipeRead p most).1.shut)] 29) :: ((b14, .cells #[.slice oa11 (((pipeWrite p bs).1.b).length) ca11, .int .i64 ((pipeWrite p bs).1.room), .bool ((pipeWrite p bs).1.closed), .bool ((pipeWrite p bs).1.shut)] 29) :: ((b7, .cells #[.slice oa4 ((((pipeNew room).1).b).length) ca4, .int .i64 (((pipeNew room).1).room), .bool (((pipeNew room).1).closed), .bool (((pipeNew room).1).shut)] 29) :: ((b2, .cells #[.slice oa p.b.length cap, .int .i64 p.room, .bool p.closed, .bool p.shut] 29) :: [])))))) 0 S29 ty29 rfl rfl rfl (by simp [Value.oneCell', str]) rfl rfl rfl fun w30 S31 =>
    s_v (r_assign rfl) rfl rfl rfl <|
    s_end <|
    c_region <|
    s_v (r_getk 4 S31 ty29 rfl rfl rfl rfl) rfl rfl rfl <|
    s_callM S31 rfl call18 (pipe_Shut _ _ S31.mem p) rfl rfl fun w33 m33 u33 le33 S33 h33 => ?_
  replace F := F.up le33; replace Fb := Fb.up le33; replace P4 := P4.up le33; replace P11 := P11.up le33; replace P18 := P18.up le33; replace Q18 := Q18.up le33; replace P25 := P25.up le33
  obtain ⟨_, rfl, oa32, ca32, rfl, P32⟩ := h33
  refine s_v (r_move rfl) rfl rfl rfl <|
    s_v (r_extract rfl rfl) rfl rfl rfl <|
    s_v (r_extract rfl rfl) rfl rfl rfl <|
    s_alloc (cs := #[.slice none 0 0, .int .i64 0, .bool false, .bool false]) S33 ty29 rfl rfl fun w34 b35 S36 =>
    s_setk (R' := ((b35, .cells #[.slice oa32 (((pipeShut p).1.b).length) ca32, .int .i64 ((pipeShut p).1.room), .bool ((pipeShut p).1.closed), .bool ((pipeShut p).1.shut)] 29) :: ((b28, .cells #[.slice oa25 (((pipeClose p).1.b).length) ca25, .int .i64 ((pipeClose p).1.room), .bool ((pipeClose p).1.closed), .bool ((pipeClose p).1.shut)] 29) :: ((b21, .cells #[.slice oa18 (((pipeRead p most).1.b).length) ca18, .int .i64 ((pipeRead p most).1.room), .bool ((pipeRead p most).1.closed), .bool ((pipeRead p most).1.shut)] 29) :: ((b14, .cells #[.slice oa11 (((pipeWrite p bs).1.b).length) ca11, .int .i64 ((pipeWrite p bs).1.room), .bool ((pipeWrite p bs).1.closed), .bool ((pipeWrite p bs).1.shut)] 29) :: ((b7, .cells #[.slice oa4 ((((pipeNew room).1).b).length) ca4, .int .i64 (((pipeNew room).1).room), .bool (((pipeNew room).1).closed), .bool (((pipeNew room).1).shut)] 29) :: ((b2, .cells #[.slice oa p.b.length cap, .int .i64 p.room, .bool p.closed, .bool p.shut] 29) :: []))))))) 0 S36 ty29 rfl rfl rfl (by simp [Value.oneCell', str]) rfl rfl rfl fun w37 S38 =>
    s_v (r_assign rfl) rfl rfl rfl <|
    s_end <|
    c_region <|
    s_v (r_build (cs := #[.slice none 0 0, .int .i64 0, .bool false, .bool false]) rfl (fun _ => by kernel_rfl)) rfl rfl rfl <|
    s_alloc (cs := #[.slice none 0 0, .int .i64 0, .bool false, .bool false]) S38 ty29 rfl rfl fun w39 b40 S41 =>
    s_setk (R' := ((b40, .cells #[.slice none 0 0, .int .i64 0, .bool false, .bool false] 29) :: ((b35, .cells #[.slice oa32 (((pipeShut p).1.b).length) ca32, .int .i64 ((pipeShut p).1.room), .bool ((pipeShut p).1.closed), .bool ((pipeShut p).1.shut)] 29) :: ((b28, .cells #[.slice oa25 (((pipeClose p).1.b).length) ca25, .int .i64 ((pipeClose p).1.room), .bool ((pipeClose p).1.closed), .bool ((pipeClose p).1.shut)] 29) :: ((b21, .cells #[.slice oa18 (((pipeRead p most).1.b).length) ca18, .int .i64 ((pipeRead p most).1.room), .bool ((pipeRead p most).1.closed), .bool ((pipeRead p most).1.shut)] 29) :: ((b14, .cells #[.slice oa11 (((pipeWrite p bs).1.b).length) ca11, .int .i64 ((pipeWrite p bs).1.room), .bool ((pipeWrite p bs).1.closed), .bool ((pipeWrite p bs).1.shut)] 29) :: ((b7, .cells #[.slice oa4 ((((pipeNew room).1).b).length) ca4, .int .i64 (((pipeNew room).1).room), .bool (((pipeNew room).1).closed), .bool (((pipeNew room).1).shut)] 29) :: ((b2, .cells #[.slice oa p.b.length cap, .int .i64 p.room, .bool p.closed, .bool p.shut] 29) :: [])))))))) 0 S41 ty29 rfl rfl rfl (by simp [Value.oneCell', str]) rfl rfl rfl fun w42 S43 =>
    s_end <|
    c_region <|
    s_v (r_getk 6 S43 ty29 rfl rfl rfl rfl) rfl rfl rfl <|
    s_callV S43 rfl call19 (ref_CheckPipe _ _ S43.mem p) rfl rfl fun w44 S45 =>
    s_v (r_assign rfl) rfl rfl rfl <|
    s_end <|
    c_seq <|
    c_quiet S45 mixed (by kernel_rfl) <|
    q_callV rfl call10 (fun w S => law_piped _ _ S.mem) rfl rfl <|
    q_v (fun w ⟨S, _⟩ => r_not rfl) rfl rfl rfl rfl <|
    q_v (fun w ⟨S, _⟩ => r_move rfl) rfl rfl rfl rfl <| ?_
  refine jq5 (L' := [(68, .bool ((!true || !decide ((pipeCheck p) = (pipeCheck p))))), (0, .agg #[.slice oa p.b.length cap, .int .i64 p.room, .bool p.closed, .bool p.shut]), (1, .slice ob bs.length cbp), (2, .int .i64 most), (3, .int .i64 room), (4, .pointer (some ⟨b2, 0, none⟩)), (8, .bool false), (9, .pointer (some ⟨b7, 0, none⟩)), (10, .int .i64 ((pipeNew room).2)), (11, .pointer (some ⟨b14, 0, none⟩)), (12, .int .i64 ((pipeWrite p bs).2.1)), (13, .int .i64 ((pipeWrite p bs).2.2)), (14, .pointer (some ⟨b21, 0, none⟩)), (15, .slice ob18 (((pipeRead p most).2.1).length) cb18), (16, .int .i64 ((pipeRead p most).2.2)), (17, .pointer (some ⟨b28, 0, none⟩)), (18, .int .i64 ((pipeClose p).2)), (19, .pointer (some ⟨b35, 0, none⟩)), (20, .int .i64 ((pipeShut p).2)), (21, .pointer (some ⟨b40, 0, none⟩)), (22, .int .i64 (pipeCheck p))]) ?KK47 (fun K47 => ?BK47)
  case BK47 =>
    refine q_bool (t := 63) rfl (fun hc460 => ?_) (fun hc460 => ?_)
    · have hc46 := hc460
      try simp only [decide_eq_true_eq, decide_eq_false_iff_not, Bool.and_eq_true, Bool.and_eq_false_imp, Bool.or_eq_true, Bool.or_eq_false_iff, Bool.not_eq_true', Bool.not_eq_false', Bool.not_not, Int.not_lt, Int.not_le] at hc46
      refine q_off rfl rfl rfl rfl rfl rfl <|
        q_off rfl rfl rfl rfl rfl rfl <|
        q_off rfl rfl rfl rfl rfl rfl <|
        q_off rfl rfl rfl rfl rfl rfl <|
        q_v (fun w ⟨S, _⟩ => r_pickT rfl rfl rfl) rfl rfl rfl rfl <| ?_
      refine q_eq (t := 68) (v := .bool ((!true || !decide ((pipeCheck p) = (pipeCheck p))))) rfl (by rw [hc460]; first | simp only [Bool.true_and, Bool.false_and, Bool.true_or, Bool.false_or] | rfl) ?_
      exact q_only [68, 0, 1, 2, 3, 4, 8, 9, 10, 11, 12, 13, 14, 15, 16, 17, 18, 19, 20, 21, 22] rfl K47
    · have hc46 := hc460
      try simp only [decide_eq_true_eq, decide_eq_false_iff_not, Bool.and_eq_true, Bool.and_eq_false_imp, Bool.or_eq_true, Bool.or_eq_false_iff, Bool.not_eq_true', Bool.not_eq_false', Bool.not_not, Int.not_lt, Int.not_le] at hc46
      refine q_on rfl rfl rfl <|
        q_v (fun w ⟨S, _⟩ => r_getk 6 S ty29 rfl rfl rfl rfl) rfl rfl rfl rfl <|
        q_on rfl rfl rfl <|
        q_callV rfl call14 (fun w S => pipe_Check _ _ S.mem p) rfl rfl <|
        q_on rfl rfl rfl <|
        q_v (fun w ⟨S, _⟩ => r_move rfl) rfl rfl rfl rfl <|
        q_on rfl rfl rfl <|
        q_v (fun w ⟨S, _⟩ => r_ii rfl rfl b_neq) rfl rfl rfl rfl <|
        q_v (fun w ⟨S, _⟩ => r_pickF rfl rfl rfl) rfl rfl rfl rfl <| ?_
      refine q_eq (t := 68) (v := .bool ((!true || !decide ((pipeCheck p) = (pipeCheck p))))) rfl (by rw [hc460]; first | simp only [Bool.true_and, Bool.false_and, Bool.true_or, Bool.false_or] | rfl) ?_
      exact q_only [68, 0, 1, 2, 3, 4, 8, 9, 10, 11, 12, 13, 14, 15, 16, 17, 18, 19, 20, 21, 22] rfl K47
  refine q_v (fun w ⟨S, _⟩ => r_move rfl) rfl rfl rfl rfl <| ?_
  refine jq12 (L' := [(81, .bool (((!true || !decide ((pipeCheck p) = (pipeCheck p))) || !((p.closed && decide ((p.b).length = 0)) == (p.closed && decide ((p.b.length : Int) = 0)))))), (0, .agg #[.slice oa p.b.length cap, .int .i64 p.room, .bool p.closed, .bool p.shut]), (1, .slice ob bs.length cbp), (2, .int .i64 most), (3, .int .i64 room), (4, .pointer (some ⟨b2, 0, none⟩)), (8, .bool false), (9, .pointer (some ⟨b7, 0, none⟩)), (10, .int .i64 ((pipeNew room).2)), (11, .pointer (some ⟨b14, 0, none⟩)), (12, .int .i64 ((pipeWrite p bs).2.1)), (13, .int .i64 ((pipeWrite p bs).2.2)), (14, .pointer (some ⟨b21, 0, none⟩)), (15, .slice ob18 (((pipeRead p most).2.1).length) cb18), (16, .int .i64 ((pipeRead p most).2.2)), (17, .pointer (some ⟨b28, 0, none⟩)), (18, .int .i64 ((pipeClose p).2)), (19, .pointer (some ⟨b35, 0, none⟩)), (20, .int .i64 ((pipeShut p).2)), (21, .pointer (some ⟨b40, 0, none⟩)), (22, .int .i64 (pipeCheck p))]) ?KK49 (fun K49 => ?BK49)
  case BK49 =>
    refine q_bool (t := 69) rfl (fun hc480 => ?_) (fun hc480 => ?_)
    · have hc48 := hc480
      try simp only [decide_eq_true_eq, decide_eq_false_iff_not, Bool.and_eq_true, Bool.and_eq_false_imp, Bool.or_eq_true, Bool.or_eq_false_iff, Bool.not_eq_true', Bool.not_eq_false', Bool.not_not, Int.not_lt, Int.not_le] at hc48
      refine q_off rfl rfl rfl rfl rfl rfl <|
        q_off rfl rfl rfl rfl rfl rfl <|
        q_off rfl rfl rfl rfl rfl rfl <|
        q_off rfl rfl rfl rfl rfl rfl <|
        q_off rfl rfl rfl rfl rfl rfl <|
        q_offU rfl rfl rfl rfl rfl <|
        q_offU rfl rfl rfl rfl rfl <|
        q_offU rfl rfl rfl rfl rfl <|
        q_offU rfl rfl rfl rfl rfl <|
        q_off rfl rfl rfl rfl rfl rfl <|
        q_off rfl rfl rfl rfl rfl rfl <|
        q_v (fun w ⟨S, _⟩ => r_pickT rfl rfl rfl) rfl rfl rfl rfl <| ?_
      refine q_eq (t := 81) (v := .bool (((!true || !decide ((pipeCheck p) = (pipeCheck p))) || !((p.closed && decide ((p.b).length = 0)) == (p.closed && decide ((p.b.length : Int) = 0)))))) rfl (by rw [hc480]; first | simp only [Bool.true_and, Bool.false_and, Bool.true_or, Bool.false_or] | rfl) ?_
      exact q_only [81, 0, 1, 2, 3, 4, 8, 9, 10, 11, 12, 13, 14, 15, 16, 17, 18, 19, 20, 21, 22] rfl K49
    · have hc48 := hc480
      try simp only [decide_eq_true_eq, decide_eq_false_iff_not, Bool.and_eq_true, Bool.and_eq_false_imp, Bool.or_eq_true, Bool.or_eq_false_iff, Bool.not_eq_true', Bool.not_eq_false', Bool.not_not, Int.not_lt, Int.not_le] at hc48
      refine q_on rfl rfl rfl <|
        q_v (fun w ⟨S, _⟩ => r_getk 6 S ty29 rfl rfl rfl rfl) rfl rfl rfl rfl <|
        q_on rfl rfl rfl <|
        q_callV rfl call20 (fun w S => pipe_Over _ _ S.mem p) rfl rfl <|
        q_on rfl rfl rfl <|
        q_v (fun w ⟨S, _⟩ => r_fieldAddr0 rfl fld29_2) rfl rfl rfl rfl <|
        q_on rfl rfl rfl <|
        q_v (fun w ⟨S, _⟩ => r_get 6 S ty4 rfl rfl rfl) rfl rfl rfl rfl <|
        q_on rfl rfl rfl <|
        q_v (fun w ⟨S, _⟩ => r_move rfl) rfl rfl rfl rfl <| ?_
      refine jq5 (L' := [(79, .bool ((p.closed && decide ((p.b.length : Int) = 0)))), (0, .agg #[.slice oa p.b.length cap, .int .i64 p.room, .bool p.closed, .bool p.shut]), (1, .slice ob bs.length cbp), (2, .int .i64 most), (3, .int .i64 room), (4, .pointer (some ⟨b2, 0, none⟩)), (8, .bool false), (9, .pointer (some ⟨b7, 0, none⟩)), (10, .int .i64 ((pipeNew room).2)), (11, .pointer (some ⟨b14, 0, none⟩)), (12, .int .i64 ((pipeWrite p bs).2.1)), (13, .int .i64 ((pipeWrite p bs).2.2)), (14, .pointer (some ⟨b21, 0, none⟩)), (15, .slice ob18 (((pipeRead p most).2.1).length) cb18), (16, .int .i64 ((pipeRead p most).2.2)), (17, .pointer (some ⟨b28, 0, none⟩)), (18, .int .i64 ((pipeClose p).2)), (19, .pointer (some ⟨b35, 0, none⟩)), (20, .int .i64 ((pipeShut p).2)), (21, .pointer (some ⟨b40, 0, none⟩)), (22, .int .i64 (pipeCheck p)), (69, .bool false), (71, .bool ((p.closed && decide ((p.b).length = 0))))]) ?KK51 (fun K51 => ?BK51)
      case BK51 =>
        refine q_bool (t := 74) rfl (fun hc500 => ?_) (fun hc500 => ?_)
        · have hc50 := hc500
          try simp only [decide_eq_true_eq, decide_eq_false_iff_not, Bool.and_eq_true, Bool.and_eq_false_imp, Bool.or_eq_true, Bool.or_eq_false_iff, Bool.not_eq_true', Bool.not_eq_false', Bool.not_not, Int.not_lt, Int.not_le] at hc50
          refine q_on rfl rfl rfl <|
            q_v (fun w ⟨S, _⟩ => r_fieldAddr0 rfl fld29_0) rfl rfl rfl rfl <|
            q_on rfl rfl rfl <|
            q_v (fun w ⟨S, _⟩ => r_get 6 S ty27 rfl rfl rfl) rfl rfl rfl rfl <|
            q_on rfl rfl rfl <|
            q_v (fun w ⟨S, _⟩ => r_len rfl Try.underlying27) rfl rfl rfl rfl <|
            q_on rfl rfl rfl <|
            q_v (fun w ⟨S, _⟩ => r_ii rfl rfl b_eql) rfl rfl rfl rfl <|
            q_on rfl rfl rfl <|
            q_v (fun w ⟨S, _⟩ => r_pickT rfl rfl rfl) rfl rfl rfl rfl <| ?_
          refine q_eq (t := 79) (v := .bool ((p.closed && decide ((p.b.length : Int) = 0)))) rfl (by rw [hc500]; first | simp only [Bool.true_and, Bool.false_and, Bool.true_or, Bool.false_or] | rfl) ?_
          exact q_only [79, 0, 1, 2, 3, 4, 8, 9, 10, 11, 12, 13, 14, 15, 16, 17, 18, 19, 20, 21, 22, 69, 71] rfl K51
        · have hc50 := hc500
          try simp only [decide_eq_true_eq, decide_eq_false_iff_not, Bool.and_eq_true, Bool.and_eq_false_imp, Bool.or_eq_true, Bool.or_eq_false_iff, Bool.not_eq_true', Bool.not_eq_false', Bool.not_not, Int.not_lt, Int.not_le] at hc50
          refine q_off rfl rfl rfl rfl rfl rfl <|
            q_off rfl rfl rfl rfl rfl rfl <|
            q_off rfl rfl rfl rfl rfl rfl <|
            q_off rfl rfl rfl rfl rfl rfl <|
            q_on rfl rfl rfl <|
            q_v (fun w ⟨S, _⟩ => r_pickF rfl rfl rfl) rfl rfl rfl rfl <| ?_
          refine q_eq (t := 79) (v := .bool ((p.closed && decide ((p.b.length : Int) = 0)))) rfl (by rw [hc500]; first | simp only [Bool.true_and, Bool.false_and, Bool.true_or, Bool.false_or] | rfl) ?_
          exact q_only [79, 0, 1, 2, 3, 4, 8, 9, 10, 11, 12, 13, 14, 15, 16, 17, 18, 19, 20, 21, 22, 69, 71] rfl K51
      refine q_on rfl rfl rfl <|
        q_v (fun w ⟨S, _⟩ => r_bb rfl rfl (bb_neq Try.underlying4)) rfl rfl rfl rfl <|
        q_v (fun w ⟨S, _⟩ => r_pickF rfl rfl rfl) rfl rfl rfl rfl <| ?_
      refine q_eq (t := 81) (v := .bool (((!true || !decide ((pipeCheck p) = (pipeCheck p))) || !((p.closed && decide ((p.b).length = 0)) == (p.closed && decide ((p.b.length : Int) = 0)))))) rfl (by rw [hc480]; first | simp only [Bool.true_and, Bool.false_and, Bool.true_or, Bool.false_or] | rfl) ?_
      exact q_only [81, 0, 1, 2, 3, 4, 8, 9, 10, 11, 12, 13, 14, 15, 16, 17, 18, 19, 20, 21, 22] rfl K49
  refine q_done fun w52 S53 _ =>
    c_if rfl (fun hc54 => ?_) (fun hc54 => ?_)
  · try simp only [decide_eq_true_eq, decide_eq_false_iff_not, Bool.and_eq_true, Bool.and_eq_false_imp, Bool.or_eq_true, Bool.or_eq_false_iff, Bool.not_eq_true', Bool.not_eq_false', Bool.not_not, Int.not_lt, Int.not_le] at hc54
    refine c_region <|
      s_v (r_assign rfl) rfl rfl rfl <|
      s_end <|
      c_ret <|
      e_thenR <|
      f_retV S53 rfl (.tmp rfl .nil) ?_
    simp only [packV]; congr 1
    first | rfl | grind [pipeNew, pipeWrite, pipeRead, pipeClose, pipeShut, zPipe]
  · try simp only [decide_eq_true_eq, decide_eq_false_iff_not, Bool.and_eq_true, Bool.and_eq_false_imp, Bool.or_eq_true, Bool.or_eq_false_iff, Bool.not_eq_true', Bool.not_eq_false', Bool.not_not, Int.not_lt, Int.not_le] at hc54
    refine c_skip <|
      e_then <|
      c_seq <|
      c_region <|
      s_v (r_move rfl) rfl rfl rfl <|
      s_v (r_ii rfl rfl b_lss) rfl rfl rfl <|
      s_v (r_move rfl) rfl rfl rfl <| ?_
    refine j3 (L' := [(87, .bool ((decide (room < 0) || decide (1000 < room)))), (0, .agg #[.slice oa p.b.length cap, .int .i64 p.room, .bool p.closed, .bool p.shut]), (1, .slice ob bs.length cbp), (2, .int .i64 most), (3, .int .i64 room), (4, .pointer (some ⟨b2, 0, none⟩)), (8, .bool false), (9, .pointer (some ⟨b7, 0, none⟩)), (10, .int .i64 ((pipeNew room).2)), (11, .pointer (some ⟨b14, 0, none⟩)), (12, .int .i64 ((pipeWrite p bs).2.1)), (13, .int .i64 ((pipeWrite p bs).2.2)), (14, .pointer (some ⟨b21, 0, none⟩)), (15, .slice ob18 (((pipeRead p most).2.1).length) cb18), (16, .int .i64 ((pipeRead p most).2.2)), (17, .pointer (some ⟨b28, 0, none⟩)), (18, .int .i64 ((pipeClose p).2)), (19, .pointer (some ⟨b35, 0, none⟩)), (20, .int .i64 ((pipeShut p).2)), (21, .pointer (some ⟨b40, 0, none⟩)), (22, .int .i64 (pipeCheck p)), (81, .bool (((!true || !decide ((pipeCheck p) = (pipeCheck p))) || !((p.closed && decide ((p.b).length = 0)) == (p.closed && decide ((p.b.length : Int) = 0))))))]) ?KK56 (fun K56 => ?BK56)
    case BK56 =>
      refine w_bool (t := 84) rfl (fun hc550 => ?_) (fun hc550 => ?_)
      · have hc55 := hc550
        try simp only [decide_eq_true_eq, decide_eq_false_iff_not, Bool.and_eq_true, Bool.and_eq_false_imp, Bool.or_eq_true, Bool.or_eq_false_iff, Bool.not_eq_true', Bool.not_eq_false', Bool.not_not, Int.not_lt, Int.not_le] at hc55
        refine s_off rfl rfl rfl rfl rfl rfl <|
          s_off rfl rfl rfl rfl rfl rfl <|
          s_v (r_pickT rfl rfl rfl) rfl rfl rfl <| ?_
        refine w_eq (t := 87) (v := .bool ((decide (room < 0) || decide (1000 < room)))) rfl (by rw [hc550]; first | simp only [Bool.true_and, Bool.false_and, Bool.true_or, Bool.false_or] | rfl) ?_
        exact w_only [87, 0, 1, 2, 3, 4, 8, 9, 10, 11, 12, 13, 14, 15, 16, 17, 18, 19, 20, 21, 22, 81] rfl K56
      · have hc55 := hc550
        try simp only [decide_eq_true_eq, decide_eq_false_iff_not, Bool.and_eq_true, Bool.and_eq_false_imp, Bool.or_eq_true, Bool.or_eq_false_iff, Bool.not_eq_true', Bool.not_eq_false', Bool.not_not, Int.not_lt, Int.not_le] at hc55
        refine s_on rfl rfl rfl <|
          s_v (r_move rfl) rfl rfl rfl <|
          s_on rfl rfl rfl <|
          s_v (r_ii rfl rfl b_gtr) rfl rfl rfl <|
          s_v (r_pickF rfl rfl rfl) rfl rfl rfl <| ?_
        refine w_eq (t := 87) (v := .bool ((decide (room < 0) || decide (1000 < room)))) rfl (by rw [hc550]; first | simp only [Bool.true_and, Bool.false_and, Bool.true_or, Bool.false_or] | rfl) ?_
        exact w_only [87, 0, 1, 2, 3, 4, 8, 9, 10, 11, 12, 13, 14, 15, 16, 17, 18, 19, 20, 21, 22, 81] rfl K56
    refine s_end <|
      c_if rfl (fun hc57 => ?_) (fun hc57 => ?_)
    · try simp only [decide_eq_true_eq, decide_eq_false_iff_not, Bool.and_eq_true, Bool.and_eq_false_imp, Bool.or_eq_true, Bool.or_eq_false_iff, Bool.not_eq_true', Bool.not_eq_false', Bool.not_not, Int.not_lt, Int.not_le] at hc57
      refine c_region <|
        s_v (r_move rfl) rfl rfl rfl <|
        s_v (r_ii rfl rfl b_neq) rfl rfl rfl <|
        s_v (r_move rfl) rfl rfl rfl <| ?_
      refine jw5 S53 (L' := [(95, .bool ((!decide ((pipeNew room).2 = 3) || !(decide (((pipeNew room).1) = ⟨[], 0, false, false⟩))))), (0, .agg #[.slice oa p.b.length cap, .int .i64 p.room, .bool p.closed, .bool p.shut]), (1, .slice ob bs.length cbp), (2, .int .i64 most), (3, .int .i64 room), (4, .pointer (some ⟨b2, 0, none⟩)), (8, .bool false), (9, .pointer (some ⟨b7, 0, none⟩)), (10, .int .i64 ((pipeNew room).2)), (11, .pointer (some ⟨b14, 0, none⟩)), (12, .int .i64 ((pipeWrite p bs).2.1)), (13, .int .i64 ((pipeWrite p bs).2.2)), (14, .pointer (some ⟨b21, 0, none⟩)), (15, .slice ob18 (((pipeRead p most).2.1).length) cb18), (16, .int .i64 ((pipeRead p most).2.2)), (17, .pointer (some ⟨b28, 0, none⟩)), (18, .int .i64 ((pipeClose p).2)), (19, .pointer (some ⟨b35, 0, none⟩)), (20, .int .i64 ((pipeShut p).2)), (21, .pointer (some ⟨b40, 0, none⟩)), (22, .int .i64 (pipeCheck p)), (81, .bool (((!true || !decide ((pipeCheck p) = (pipeCheck p))) || !((p.closed && decide ((p.b).length = 0)) == (p.closed && decide ((p.b.length : Int) = 0)))))), (87, .bool ((decide (room < 0) || decide (1000 < room))))]) ?KK59 (fun K59 => ?BK59)
      case BK59 =>
        refine w_bool (t := 90) rfl (fun hc580 => ?_) (fun hc580 => ?_)
        · have hc58 := hc580
          try simp only [decide_eq_true_eq, decide_eq_false_iff_not, Bool.and_eq_true, Bool.and_eq_false_imp, Bool.or_eq_true, Bool.or_eq_false_iff, Bool.not_eq_true', Bool.not_eq_false', Bool.not_not, Int.not_lt, Int.not_le] at hc58
          refine s_off rfl rfl rfl rfl rfl rfl <|
            s_off rfl rfl rfl rfl rfl rfl <|
            s_off rfl rfl rfl rfl rfl rfl <|
            s_off rfl rfl rfl rfl rfl rfl <|
            s_v (r_pickT rfl rfl rfl) rfl rfl rfl <| ?_
          refine w_eq (t := 95) (v := .bool ((!decide ((pipeNew room).2 = 3) || !(decide (((pipeNew room).1) = ⟨[], 0, false, false⟩))))) rfl (by rw [hc580]; first | simp only [Bool.true_and, Bool.false_and, Bool.true_or, Bool.false_or] | rfl) ?_
          exact w_only [95, 0, 1, 2, 3, 4, 8, 9, 10, 11, 12, 13, 14, 15, 16, 17, 18, 19, 20, 21, 22, 81, 87] rfl (K59 _ S53)
        · have hc58 := hc580
          try simp only [decide_eq_true_eq, decide_eq_false_iff_not, Bool.and_eq_true, Bool.and_eq_false_imp, Bool.or_eq_true, Bool.or_eq_false_iff, Bool.not_eq_true', Bool.not_eq_false', Bool.not_not, Int.not_lt, Int.not_le] at hc58
          refine s_on rfl rfl rfl <|
            s_v (r_getk 5 S53 ty29 rfl rfl rfl rfl) rfl rfl rfl <|
            s_on rfl rfl rfl <|
            s_v (r_getk 0 S53 ty29 rfl rfl rfl rfl) rfl rfl rfl <|
            s_on rfl rfl rfl <|
            s_callV S53 rfl call21 (ref_SamePipe _ _ S53.mem ((pipeNew room).1) ⟨[], 0, false, false⟩ P4 SlA.none) rfl rfl fun w60 S61 =>
            s_on rfl rfl rfl <|
            s_v (r_not rfl) rfl rfl rfl <|
            s_v (r_pickF rfl rfl rfl) rfl rfl rfl <| ?_
          refine w_eq (t := 95) (v := .bool ((!decide ((pipeNew room).2 = 3) || !(decide (((pipeNew room).1) = ⟨[], 0, false, false⟩))))) rfl (by rw [hc580]; first | simp only [Bool.true_and, Bool.false_and, Bool.true_or, Bool.false_or] | rfl) ?_
          exact w_only [95, 0, 1, 2, 3, 4, 8, 9, 10, 11, 12, 13, 14, 15, 16, 17, 18, 19, 20, 21, 22, 81, 87] rfl (K59 _ S61)
      intro w62 S63
      refine s_end <|
        c_if rfl (fun hc64 => ?_) (fun hc64 => ?_)
      · try simp only [decide_eq_true_eq, decide_eq_false_iff_not, Bool.and_eq_true, Bool.and_eq_false_imp, Bool.or_eq_true, Bool.or_eq_false_iff, Bool.not_eq_true', Bool.not_eq_false', Bool.not_not, Int.not_lt, Int.not_le] at hc64
        refine c_region <|
          s_v (r_assign rfl) rfl rfl rfl <|
          s_end <|
          c_ret <|
          e_thenR <|
          f_retV S63 rfl (.tmp rfl .nil) ?_
        simp only [packV]; congr 1
        first | rfl | grind [pipeNew, pipeWrite, pipeRead, pipeClose, pipeShut, zPipe]
      · try simp only [decide_eq_true_eq, decide_eq_false_iff_not, Bool.and_eq_true, Bool.and_eq_false_imp, Bool.or_eq_true, Bool.or_eq_false_iff, Bool.not_eq_true', Bool.not_eq_false', Bool.not_not, Int.not_lt, Int.not_le] at hc64
        refine c_skip <|
          e_then <|
          c_seq <|
          c_region <|
          s_v (r_move rfl) rfl rfl rfl <|
          s_v (r_ii rfl rfl b_neq) rfl rfl rfl <|
          s_end <|
          c_if rfl (fun hc65 => ?_) (fun hc65 => ?_)
        · try simp only [decide_eq_true_eq, decide_eq_false_iff_not, Bool.and_eq_true, Bool.and_eq_false_imp, Bool.or_eq_true, Bool.or_eq_false_iff, Bool.not_eq_true', Bool.not_eq_false', Bool.not_not, Int.not_lt, Int.not_le] at hc65
          refine c_region <|
            s_v (r_move rfl) rfl rfl rfl <|
            s_v (r_move rfl) rfl rfl rfl <|
            s_v (r_ii rfl rfl b_eql) rfl rfl rfl <|
            s_v (r_move rfl) rfl rfl rfl <| ?_
          refine j4 (L' := [(114, .bool ((decide ((pipeWrite p bs).2.2 = (pipeCheck p)) && decide ((pipeRead p most).2.2 = (pipeCheck p))))), (0, .agg #[.slice oa p.b.length cap, .int .i64 p.room, .bool p.closed, .bool p.shut]), (1, .slice ob bs.length cbp), (2, .int .i64 most), (3, .int .i64 room), (4, .pointer (some ⟨b2, 0, none⟩)), (8, .bool false), (9, .pointer (some ⟨b7, 0, none⟩)), (10, .int .i64 ((pipeNew room).2)), (11, .pointer (some ⟨b14, 0, none⟩)), (12, .int .i64 ((pipeWrite p bs).2.1)), (13, .int .i64 ((pipeWrite p bs).2.2)), (14, .pointer (some ⟨b21, 0, none⟩)), (15, .slice ob18 (((pipeRead p most).2.1).length) cb18), (16, .int .i64 ((pipeRead p most).2.2)), (17, .pointer (some ⟨b28, 0, none⟩)), (18, .int .i64 ((pipeClose p).2)), (19, .pointer (some ⟨b35, 0, none⟩)), (20, .int .i64 ((pipeShut p).2)), (21, .pointer (some ⟨b40, 0, none⟩)), (22, .int .i64 (pipeCheck p)), (81, .bool (((!true || !decide ((pipeCheck p) = (pipeCheck p))) || !((p.closed && decide ((p.b).length = 0)) == (p.closed && decide ((p.b.length : Int) = 0)))))), (87, .bool ((decide (room < 0) || decide (1000 < room)))), (95, .bool ((!decide ((pipeNew room).2 = 3) || !(decide (((pipeNew room).1) = ⟨[], 0, false, false⟩))))), (106, .bool (!decide ((pipeCheck p) = 0)))]) ?KK67 (fun K67 => ?BK67)
          case BK67 =>
            refine w_bool (t := 110) rfl (fun hc660 => ?_) (fun hc660 => ?_)
            · have hc66 := hc660
              try simp only [decide_eq_true_eq, decide_eq_false_iff_not, Bool.and_eq_true, Bool.and_eq_false_imp, Bool.or_eq_true, Bool.or_eq_false_iff, Bool.not_eq_true', Bool.not_eq_false', Bool.not_not, Int.not_lt, Int.not_le] at hc66
              refine s_on rfl rfl rfl <|
                s_v (r_move rfl) rfl rfl rfl <|
                s_on rfl rfl rfl <|
                s_v (r_move rfl) rfl rfl rfl <|
                s_on rfl rfl rfl <|
                s_v (r_ii rfl rfl b_eql) rfl rfl rfl <|
                s_v (r_pickT rfl rfl rfl) rfl rfl rfl <| ?_
              refine w_eq (t := 114) (v := .bool ((decide ((pipeWrite p bs).2.2 = (pipeCheck p)) && decide ((pipeRead p most).2.2 = (pipeCheck p))))) rfl (by rw [hc660]; first | simp only [Bool.true_and, Bool.false_and, Bool.true_or, Bool.false_or] | rfl) ?_
              exact w_only [114, 0, 1, 2, 3, 4, 8, 9, 10, 11, 12, 13, 14, 15, 16, 17, 18, 19, 20, 21, 22, 81, 87, 95, 106] rfl K67
            · have hc66 := hc660
              try simp only [decide_eq_true_eq, decide_eq_false_iff_not, Bool.and_eq_true, Bool.and_eq_false_imp, Bool.or_eq_true, Bool.or_eq_false_iff, Bool.not_eq_true', Bool.not_eq_false', Bool.not_not, Int.not_lt, Int.not_le] at hc66
              refine s_off rfl rfl rfl rfl rfl rfl <|
                s_off rfl rfl rfl rfl rfl rfl <|
                s_off rfl rfl rfl rfl rfl rfl <|
                s_v (r_pickF rfl rfl rfl) rfl rfl rfl <| ?_
              refine w_eq (t := 114) (v := .bool ((decide ((pipeWrite p bs).2.2 = (pipeCheck p)) && decide ((pipeRead p most).2.2 = (pipeCheck p))))) rfl (by rw [hc660]; first | simp only [Bool.true_and, Bool.false_and, Bool.true_or, Bool.false_or] | rfl) ?_
              exact w_only [114, 0, 1, 2, 3, 4, 8, 9, 10, 11, 12, 13, 14, 15, 16, 17, 18, 19, 20, 21, 22, 81, 87, 95, 106] rfl K67
          refine s_v (r_move rfl) rfl rfl rfl <| ?_
          refine j4 (L' := [(119, .bool (((decide ((pipeWrite p bs).2.2 = (pipeCheck p)) && decide ((pipeRead p most).2.2 = (pipeCheck p))) && decide ((pipeClose p).2 = (pipeCheck p))))), (0, .agg #[.slice oa p.b.length cap, .int .i64 p.room, .bool p.closed, .bool p.shut]), (1, .slice ob bs.length cbp), (2, .int .i64 most), (3, .int .i64 room), (4, .pointer (some ⟨b2, 0, none⟩)), (8, .bool false), (9, .pointer (some ⟨b7, 0, none⟩)), (10, .int .i64 ((pipeNew room).2)), (11, .pointer (some ⟨b14, 0, none⟩)), (12, .int .i64 ((pipeWrite p bs).2.1)), (13, .int .i64 ((pipeWrite p bs).2.2)), (14, .pointer (some ⟨b21, 0, none⟩)), (15, .slice ob18 (((pipeRead p most).2.1).length) cb18), (16, .int .i64 ((pipeRead p most).2.2)), (17, .pointer (some ⟨b28, 0, none⟩)), (18, .int .i64 ((pipeClose p).2)), (19, .pointer (some ⟨b35, 0, none⟩)), (20, .int .i64 ((pipeShut p).2)), (21, .pointer (some ⟨b40, 0, none⟩)), (22, .int .i64 (pipeCheck p)), (81, .bool (((!true || !decide ((pipeCheck p) = (pipeCheck p))) || !((p.closed && decide ((p.b).length = 0)) == (p.closed && decide ((p.b.length : Int) = 0)))))), (87, .bool ((decide (room < 0) || decide (1000 < room)))), (95, .bool ((!decide ((pipeNew room).2 = 3) || !(decide (((pipeNew room).1) = ⟨[], 0, false, false⟩))))), (106, .bool (!decide ((pipeCheck p) = 0)))]) ?KK69 (fun K69 => ?BK69)
          case BK69 =>
            refine w_bool (t := 115) rfl (fun hc680 => ?_) (fun hc680 => ?_)
            · have hc68 := hc680
              try simp only [decide_eq_true_eq, decide_eq_false_iff_not, Bool.and_eq_true, Bool.and_eq_false_imp, Bool.or_eq_true, Bool.or_eq_false_iff, Bool.not_eq_true', Bool.not_eq_false', Bool.not_not, Int.not_lt, Int.not_le] at hc68
              refine s_on rfl rfl rfl <|
                s_v (r_move rfl) rfl rfl rfl <|
                s_on rfl rfl rfl <|
                s_v (r_move rfl) rfl rfl rfl <|
                s_on rfl rfl rfl <|
                s_v (r_ii rfl rfl b_eql) rfl rfl rfl <|
                s_v (r_pickT rfl rfl rfl) rfl rfl rfl <| ?_
              refine w_eq (t := 119) (v := .bool (((decide ((pipeWrite p bs).2.2 = (pipeCheck p)) && decide ((pipeRead p most).2.2 = (pipeCheck p))) && decide ((pipeClose p).2 = (pipeCheck p))))) rfl (by rw [hc680]; first | simp only [Bool.true_and, Bool.false_and, Bool.true_or, Bool.false_or] | rfl) ?_
              exact w_only [119, 0, 1, 2, 3, 4, 8, 9, 10, 11, 12, 13, 14, 15, 16, 17, 18, 19, 20, 21, 22, 81, 87, 95, 106] rfl K69
            · have hc68 := hc680
              try simp only [decide_eq_true_eq, decide_eq_false_iff_not, Bool.and_eq_true, Bool.and_eq_false_imp, Bool.or_eq_true, Bool.or_eq_false_iff, Bool.not_eq_true', Bool.not_eq_false', Bool.not_not, Int.not_lt, Int.not_le] at hc68
              refine s_off rfl rfl rfl rfl rfl rfl <|
                s_off rfl rfl rfl rfl rfl rfl <|
                s_off rfl rfl rfl rfl rfl rfl <|
                s_v (r_pickF rfl rfl rfl) rfl rfl rfl <| ?_
              refine w_eq (t := 119) (v := .bool (((decide ((pipeWrite p bs).2.2 = (pipeCheck p)) && decide ((pipeRead p most).2.2 = (pipeCheck p))) && decide ((pipeClose p).2 = (pipeCheck p))))) rfl (by rw [hc680]; first | simp only [Bool.true_and, Bool.false_and, Bool.true_or, Bool.false_or] | rfl) ?_
              exact w_only [119, 0, 1, 2, 3, 4, 8, 9, 10, 11, 12, 13, 14, 15, 16, 17, 18, 19, 20, 21, 22, 81, 87, 95, 106] rfl K69
          refine s_v (r_move rfl) rfl rfl rfl <| ?_
          refine j4 (L' := [(124, .bool ((((decide ((pipeWrite p bs).2.2 = (pipeCheck p)) && decide ((pipeRead p most).2.2 = (pipeCheck p))) && decide ((pipeClose p).2 = (pipeCheck p))) && decide ((pipeShut p).2 = (pipeCheck p))))), (0, .agg #[.slice oa p.b.length cap, .int .i64 p.room, .bool p.closed, .bool p.shut]), (1, .slice ob bs.length cbp), (2, .int .i64 most), (3, .int .i64 room), (4, .pointer (some ⟨b2, 0, none⟩)), (8, .bool false), (9, .pointer (some ⟨b7, 0, none⟩)), (10, .int .i64 ((pipeNew room).2)), (11, .pointer (some ⟨b14, 0, none⟩)), (12, .int .i64 ((pipeWrite p bs).2.1)), (13, .int .i64 ((pipeWrite p bs).2.2)), (14, .pointer (some ⟨b21, 0, none⟩)), (15, .slice ob18 (((pipeRead p most).2.1).length) cb18), (16, .int .i64 ((pipeRead p most).2.2)), (17, .pointer (some ⟨b28, 0, none⟩)), (18, .int .i64 ((pipeClose p).2)), (19, .pointer (some ⟨b35, 0, none⟩)), (20, .int .i64 ((pipeShut p).2)), (21, .pointer (some ⟨b40, 0, none⟩)), (22, .int .i64 (pipeCheck p)), (81, .bool (((!true || !decide ((pipeCheck p) = (pipeCheck p))) || !((p.closed && decide ((p.b).length = 0)) == (p.closed && decide ((p.b.length : Int) = 0)))))), (87, .bool ((decide (room < 0) || decide (1000 < room)))), (95, .bool ((!decide ((pipeNew room).2 = 3) || !(decide (((pipeNew room).1) = ⟨[], 0, false, false⟩))))), (106, .bool (!decide ((pipeCheck p) = 0)))]) ?KK71 (fun K71 => ?BK71)
          case BK71 =>
            refine w_bool (t := 120) rfl (fun hc700 => ?_) (fun hc700 => ?_)
            · have hc70 := hc700
              try simp only [decide_eq_true_eq, decide_eq_false_iff_not, Bool.and_eq_true, Bool.and_eq_false_imp, Bool.or_eq_true, Bool.or_eq_false_iff, Bool.not_eq_true', Bool.not_eq_false', Bool.not_not, Int.not_lt, Int.not_le] at hc70
              refine s_on rfl rfl rfl <|
                s_v (r_move rfl) rfl rfl rfl <|
                s_on rfl rfl rfl <|
                s_v (r_move rfl) rfl rfl rfl <|
                s_on rfl rfl rfl <|
                s_v (r_ii rfl rfl b_eql) rfl rfl rfl <|
                s_v (r_pickT rfl rfl rfl) rfl rfl rfl <| ?_
              refine w_eq (t := 124) (v := .bool ((((decide ((pipeWrite p bs).2.2 = (pipeCheck p)) && decide ((pipeRead p most).2.2 = (pipeCheck p))) && decide ((pipeClose p).2 = (pipeCheck p))) && decide ((pipeShut p).2 = (pipeCheck p))))) rfl (by rw [hc700]; first | simp only [Bool.true_and, Bool.false_and, Bool.true_or, Bool.false_or] | rfl) ?_
              exact w_only [124, 0, 1, 2, 3, 4, 8, 9, 10, 11, 12, 13, 14, 15, 16, 17, 18, 19, 20, 21, 22, 81, 87, 95, 106] rfl K71
            · have hc70 := hc700
              try simp only [decide_eq_true_eq, decide_eq_false_iff_not, Bool.and_eq_true, Bool.and_eq_false_imp, Bool.or_eq_true, Bool.or_eq_false_iff, Bool.not_eq_true', Bool.not_eq_false', Bool.not_not, Int.not_lt, Int.not_le] at hc70
              refine s_off rfl rfl rfl rfl rfl rfl <|
                s_off rfl rfl rfl rfl rfl rfl <|
                s_off rfl rfl rfl rfl rfl rfl <|
                s_v (r_pickF rfl rfl rfl) rfl rfl rfl <| ?_
              refine w_eq (t := 124) (v := .bool ((((decide ((pipeWrite p bs).2.2 = (pipeCheck p)) && decide ((pipeRead p most).2.2 = (pipeCheck p))) && decide ((pipeClose p).2 = (pipeCheck p))) && decide ((pipeShut p).2 = (pipeCheck p))))) rfl (by rw [hc700]; first | simp only [Bool.true_and, Bool.false_and, Bool.true_or, Bool.false_or] | rfl) ?_
              exact w_only [124, 0, 1, 2, 3, 4, 8, 9, 10, 11, 12, 13, 14, 15, 16, 17, 18, 19, 20, 21, 22, 81, 87, 95, 106] rfl K71
          refine s_v (r_move rfl) rfl rfl rfl <| ?_
          refine j6 (L' := [(131, .bool (((((decide ((pipeWrite p bs).2.2 = (pipeCheck p)) && decide ((pipeRead p most).2.2 = (pipeCheck p))) && decide ((pipeClose p).2 = (pipeCheck p))) && decide ((pipeShut p).2 = (pipeCheck p))) && decide (((pipeWrite p bs).2.1 + (((pipeRead p most).2.1).length : Int)) = 0)))), (0, .agg #[.slice oa p.b.length cap, .int .i64 p.room, .bool p.closed, .bool p.shut]), (1, .slice ob bs.length cbp), (2, .int .i64 most), (3, .int .i64 room), (4, .pointer (some ⟨b2, 0, none⟩)), (8, .bool false), (9, .pointer (some ⟨b7, 0, none⟩)), (10, .int .i64 ((pipeNew room).2)), (11, .pointer (some ⟨b14, 0, none⟩)), (12, .int .i64 ((pipeWrite p bs).2.1)), (13, .int .i64 ((pipeWrite p bs).2.2)), (14, .pointer (some ⟨b21, 0, none⟩)), (15, .slice ob18 (((pipeRead p most).2.1).length) cb18), (16, .int .i64 ((pipeRead p most).2.2)), (17, .pointer (some ⟨b28, 0, none⟩)), (18, .int .i64 ((pipeClose p).2)), (19, .pointer (some ⟨b35, 0, none⟩)), (20, .int .i64 ((pipeShut p).2)), (21, .pointer (some ⟨b40, 0, none⟩)), (22, .int .i64 (pipeCheck p)), (81, .bool (((!true || !decide ((pipeCheck p) = (pipeCheck p))) || !((p.closed && decide ((p.b).length = 0)) == (p.closed && decide ((p.b.length : Int) = 0)))))), (87, .bool ((decide (room < 0) || decide (1000 < room)))), (95, .bool ((!decide ((pipeNew room).2 = 3) || !(decide (((pipeNew room).1) = ⟨[], 0, false, false⟩))))), (106, .bool (!decide ((pipeCheck p) = 0)))]) ?KK73 (fun K73 => ?BK73)
          case BK73 =>
            refine w_bool (t := 125) rfl (fun hc720 => ?_) (fun hc720 => ?_)
            · have hc72 := hc720
              try simp only [decide_eq_true_eq, decide_eq_false_iff_not, Bool.and_eq_true, Bool.and_eq_false_imp, Bool.or_eq_true, Bool.or_eq_false_iff, Bool.not_eq_true', Bool.not_eq_false', Bool.not_not, Int.not_lt, Int.not_le] at hc72
              refine s_on rfl rfl rfl <|
                s_v (r_move rfl) rfl rfl rfl <|
                s_on rfl rfl rfl <|
                s_v (r_move rfl) rfl rfl rfl <|
                s_on rfl rfl rfl <|
                s_v (r_len rfl Try.underlying27) rfl rfl rfl <|
                s_on rfl rfl rfl <|
                s_v (r_ii rfl rfl (b_add (by have := @pipe_bad p bs most (by assumption); rw [this.1, this.2]; simp))) rfl rfl rfl <|
                s_on rfl rfl rfl <|
                s_v (r_ii rfl rfl b_eql) rfl rfl rfl <|
                s_v (r_pickT rfl rfl rfl) rfl rfl rfl <| ?_
              refine w_eq (t := 131) (v := .bool (((((decide ((pipeWrite p bs).2.2 = (pipeCheck p)) && decide ((pipeRead p most).2.2 = (pipeCheck p))) && decide ((pipeClose p).2 = (pipeCheck p))) && decide ((pipeShut p).2 = (pipeCheck p))) && decide (((pipeWrite p bs).2.1 + (((pipeRead p most).2.1).length : Int)) = 0)))) rfl (by rw [hc720]; first | simp only [Bool.true_and, Bool.false_and, Bool.true_or, Bool.false_or] | rfl) ?_
              exact w_only [131, 0, 1, 2, 3, 4, 8, 9, 10, 11, 12, 13, 14, 15, 16, 17, 18, 19, 20, 21, 22, 81, 87, 95, 106] rfl K73
            · have hc72 := hc720
              try simp only [decide_eq_true_eq, decide_eq_false_iff_not, Bool.and_eq_true, Bool.and_eq_false_imp, Bool.or_eq_true, Bool.or_eq_false_iff, Bool.not_eq_true', Bool.not_eq_false', Bool.not_not, Int.not_lt, Int.not_le] at hc72
              refine s_off rfl rfl rfl rfl rfl rfl <|
                s_off rfl rfl rfl rfl rfl rfl <|
                s_off rfl rfl rfl rfl rfl rfl <|
                s_off rfl rfl rfl rfl rfl rfl <|
                s_off rfl rfl rfl rfl rfl rfl <|
                s_v (r_pickF rfl rfl rfl) rfl rfl rfl <| ?_
              refine w_eq (t := 131) (v := .bool (((((decide ((pipeWrite p bs).2.2 = (pipeCheck p)) && decide ((pipeRead p most).2.2 = (pipeCheck p))) && decide ((pipeClose p).2 = (pipeCheck p))) && decide ((pipeShut p).2 = (pipeCheck p))) && decide (((pipeWrite p bs).2.1 + (((pipeRead p most).2.1).length : Int)) = 0)))) rfl (by rw [hc720]; first | simp only [Bool.true_and, Bool.false_and, Bool.true_or, Bool.false_or] | rfl) ?_
              exact w_only [131, 0, 1, 2, 3, 4, 8, 9, 10, 11, 12, 13, 14, 15, 16, 17, 18, 19, 20, 21, 22, 81, 87, 95, 106] rfl K73
          refine s_v (r_move rfl) rfl rfl rfl <| ?_
          refine jw4 S63 (L' := [(136, .bool ((((((decide ((pipeWrite p bs).2.2 = (pipeCheck p)) && decide ((pipeRead p most).2.2 = (pipeCheck p))) && decide ((pipeClose p).2 = (pipeCheck p))) && decide ((pipeShut p).2 = (pipeCheck p))) && decide (((pipeWrite p bs).2.1 + (((pipeRead p most).2.1).length : Int)) = 0)) && decide ((pipeWrite p bs).1 = ⟨[], 0, false, false⟩)))), (0, .agg #[.slice oa p.b.length cap, .int .i64 p.room, .bool p.closed, .bool p.shut]), (1, .slice ob bs.length cbp), (2, .int .i64 most), (3, .int .i64 room), (4, .pointer (some ⟨b2, 0, none⟩)), (8, .bool false), (9, .pointer (some ⟨b7, 0, none⟩)), (10, .int .i64 ((pipeNew room).2)), (11, .pointer (some ⟨b14, 0, none⟩)), (12, .int .i64 ((pipeWrite p bs).2.1)), (13, .int .i64 ((pipeWrite p bs).2.2)), (14, .pointer (some ⟨b21, 0, none⟩)), (15, .slice ob18 (((pipeRead p most).2.1).length) cb18), (16, .int .i64 ((pipeRead p most).2.2)), (17, .pointer (some ⟨b28, 0, none⟩)), (18, .int .i64 ((pipeClose p).2)), (19, .pointer (some ⟨b35, 0, none⟩)), (20, .int .i64 ((pipeShut p).2)), (21, .pointer (some ⟨b40, 0, none⟩)), (22, .int .i64 (pipeCheck p)), (81, .bool (((!true || !decide ((pipeCheck p) = (pipeCheck p))) || !((p.closed && decide ((p.b).length = 0)) == (p.closed && decide ((p.b.length : Int) = 0)))))), (87, .bool ((decide (room < 0) || decide (1000 < room)))), (95, .bool ((!decide ((pipeNew room).2 = 3) || !(decide (((pipeNew room).1) = ⟨[], 0, false, false⟩))))), (106, .bool (!decide ((pipeCheck p) = 0)))]) ?KK75 (fun K75 => ?BK75)
          case BK75 =>
            refine w_bool (t := 132) rfl (fun hc740 => ?_) (fun hc740 => ?_)
            · have hc74 := hc740
              try simp only [decide_eq_true_eq, decide_eq_false_iff_not, Bool.and_eq_true, Bool.and_eq_false_imp, Bool.or_eq_true, Bool.or_eq_false_iff, Bool.not_eq_true', Bool.not_eq_false', Bool.not_not, Int.not_lt, Int.not_le] at hc74
              refine s_on rfl rfl rfl <|
                s_v (r_getk 4 S63 ty29 rfl rfl rfl rfl) rfl rfl rfl <|
                s_on rfl rfl rfl <|
                s_v (r_getk 0 S63 ty29 rfl rfl rfl rfl) rfl rfl rfl <|
                s_on rfl rfl rfl <|
                s_callV S63 rfl call21 (ref_SamePipe _ _ S63.mem (pipeWrite p bs).1 ⟨[], 0, false, false⟩ P11 SlA.none) rfl rfl fun w76 S77 =>
                s_v (r_pickT rfl rfl rfl) rfl rfl rfl <| ?_
              refine w_eq (t := 136) (v := .bool ((((((decide ((pipeWrite p bs).2.2 = (pipeCheck p)) && decide ((pipeRead p most).2.2 = (pipeCheck p))) && decide ((pipeClose p).2 = (pipeCheck p))) && decide ((pipeShut p).2 = (pipeCheck p))) && decide (((pipeWrite p bs).2.1 + (((pipeRead p most).2.1).length : Int)) = 0)) && decide ((pipeWrite p bs).1 = ⟨[], 0, false, false⟩)))) rfl (by rw [hc740]; first | simp only [Bool.true_and, Bool.false_and, Bool.true_or, Bool.false_or] | rfl) ?_
              exact w_only [136, 0, 1, 2, 3, 4, 8, 9, 10, 11, 12, 13, 14, 15, 16, 17, 18, 19, 20, 21, 22, 81, 87, 95, 106] rfl (K75 _ S77)
            · have hc74 := hc740
              try simp only [decide_eq_true_eq, decide_eq_false_iff_not, Bool.and_eq_true, Bool.and_eq_false_imp, Bool.or_eq_true, Bool.or_eq_false_iff, Bool.not_eq_true', Bool.not_eq_false', Bool.not_not, Int.not_lt, Int.not_le] at hc74
              refine s_off rfl rfl rfl rfl rfl rfl <|
                s_off rfl rfl rfl rfl rfl rfl <|
                s_off rfl rfl rfl rfl rfl rfl <|
                s_v (r_pickF rfl rfl rfl) rfl rfl rfl <| ?_
              refine w_eq (t := 136) (v := .bool ((((((decide ((pipeWrite p bs).2.2 = (pipeCheck p)) && decide ((pipeRead p most).2.2 = (pipeCheck p))) && decide ((pipeClose p).2 = (pipeCheck p))) && decide ((pipeShut p).2 = (pipeCheck p))) && decide (((pipeWrite p bs).2.1 + (((pipeRead p most).2.1).length : Int)) = 0)) && decide ((pipeWrite p bs).1 = ⟨[], 0, false, false⟩)))) rfl (by rw [hc740]; first | simp only [Bool.true_and, Bool.false_and, Bool.true_or, Bool.false_or] | rfl) ?_
              exact w_only [136, 0, 1, 2, 3, 4, 8, 9, 10, 11, 12, 13, 14, 15, 16, 17, 18, 19, 20, 21, 22, 81, 87, 95, 106] rfl (K75 _ S63)
          intro w78 S79
          refine s_v (r_move rfl) rfl rfl rfl <| ?_
          refine jw4 S79 (L' := [(141, .bool (((((((decide ((pipeWrite p bs).2.2 = (pipeCheck p)) && decide ((pipeRead p most).2.2 = (pipeCheck p))) && decide ((pipeClose p).2 = (pipeCheck p))) && decide ((pipeShut p).2 = (pipeCheck p))) && decide (((pipeWrite p bs).2.1 + (((pipeRead p most).2.1).length : Int)) = 0)) && decide ((pipeWrite p bs).1 = ⟨[], 0, false, false⟩)) && decide ((pipeRead p most).1 = ⟨[], 0, false, false⟩)))), (0, .agg #[.slice oa p.b.length cap, .int .i64 p.room, .bool p.closed, .bool p.shut]), (1, .slice ob bs.length cbp), (2, .int .i64 most), (3, .int .i64 room), (4, .pointer (some ⟨b2, 0, none⟩)), (8, .bool false), (9, .pointer (some ⟨b7, 0, none⟩)), (10, .int .i64 ((pipeNew room).2)), (11, .pointer (some ⟨b14, 0, none⟩)), (12, .int .i64 ((pipeWrite p bs).2.1)), (13, .int .i64 ((pipeWrite p bs).2.2)), (14, .pointer (some ⟨b21, 0, none⟩)), (15, .slice ob18 (((pipeRead p most).2.1).length) cb18), (16, .int .i64 ((pipeRead p most).2.2)), (17, .pointer (some ⟨b28, 0, none⟩)), (18, .int .i64 ((pipeClose p).2)), (19, .pointer (some ⟨b35, 0, none⟩)), (20, .int .i64 ((pipeShut p).2)), (21, .pointer (some ⟨b40, 0, none⟩)), (22, .int .i64 (pipeCheck p)), (81, .bool (((!true || !decide ((pipeCheck p) = (pipeCheck p))) || !((p.closed && decide ((p.b).length = 0)) == (p.closed && decide ((p.b.length : Int) = 0)))))), (87, .bool ((decide (room < 0) || decide (1000 < room)))), (95, .bool ((!decide ((pipeNew room).2 = 3) || !(decide (((pipeNew room).1) = ⟨[], 0, false, false⟩))))), (106, .bool (!decide ((pipeCheck p) = 0)))]) ?KK81 (fun K81 => ?BK81)
          case BK81 =>
            refine w_bool (t := 137) rfl (fun hc800 => ?_) (fun hc800 => ?_)
            · have hc80 := hc800
              try simp only [decide_eq_true_eq, decide_eq_false_iff_not, Bool.and_eq_true, Bool.and_eq_false_imp, Bool.or_eq_true, Bool.or_eq_false_iff, Bool.not_eq_true', Bool.not_eq_false', Bool.not_not, Int.not_lt, Int.not_le] at hc80
              refine s_on rfl rfl rfl <|
                s_v (r_getk 3 S79 ty29 rfl rfl rfl rfl) rfl rfl rfl <|
                s_on rfl rfl rfl <|
                s_v (r_getk 0 S79 ty29 rfl rfl rfl rfl) rfl rfl rfl <|
                s_on rfl rfl rfl <|
                s_callV S79 rfl call21 (ref_SamePipe _ _ S79.mem (pipeRead p most).1 ⟨[], 0, false, false⟩ P18 SlA.none) rfl rfl fun w82 S83 =>
                s_v (r_pickT rfl rfl rfl) rfl rfl rfl <| ?_
              refine w_eq (t := 141) (v := .bool (((((((decide ((pipeWrite p bs).2.2 = (pipeCheck p)) && decide ((pipeRead p most).2.2 = (pipeCheck p))) && decide ((pipeClose p).2 = (pipeCheck p))) && decide ((pipeShut p).2 = (pipeCheck p))) && decide (((pipeWrite p bs).2.1 + (((pipeRead p most).2.1).length : Int)) = 0)) && decide ((pipeWrite p bs).1 = ⟨[], 0, false, false⟩)) && decide ((pipeRead p most).1 = ⟨[], 0, false, false⟩)))) rfl (by rw [hc800]; first | simp only [Bool.true_and, Bool.false_and, Bool.true_or, Bool.false_or] | rfl) ?_
              exact w_only [141, 0, 1, 2, 3, 4, 8, 9, 10, 11, 12, 13, 14, 15, 16, 17, 18, 19, 20, 21, 22, 81, 87, 95, 106] rfl (K81 _ S83)
            · have hc80 := hc800
              try simp only [decide_eq_true_eq, decide_eq_false_iff_not, Bool.and_eq_true, Bool.and_eq_false_imp, Bool.or_eq_true, Bool.or_eq_false_iff, Bool.not_eq_true', Bool.not_eq_false', Bool.not_not, Int.not_lt, Int.not_le] at hc80
              refine s_off rfl rfl rfl rfl rfl rfl <|
                s_off rfl rfl rfl rfl rfl rfl <|
                s_off rfl rfl rfl rfl rfl rfl <|
                s_v (r_pickF rfl rfl rfl) rfl rfl rfl <| ?_
              refine w_eq (t := 141) (v := .bool (((((((decide ((pipeWrite p bs).2.2 = (pipeCheck p)) && decide ((pipeRead p most).2.2 = (pipeCheck p))) && decide ((pipeClose p).2 = (pipeCheck p))) && decide ((pipeShut p).2 = (pipeCheck p))) && decide (((pipeWrite p bs).2.1 + (((pipeRead p most).2.1).length : Int)) = 0)) && decide ((pipeWrite p bs).1 = ⟨[], 0, false, false⟩)) && decide ((pipeRead p most).1 = ⟨[], 0, false, false⟩)))) rfl (by rw [hc800]; first | simp only [Bool.true_and, Bool.false_and, Bool.true_or, Bool.false_or] | rfl) ?_
              exact w_only [141, 0, 1, 2, 3, 4, 8, 9, 10, 11, 12, 13, 14, 15, 16, 17, 18, 19, 20, 21, 22, 81, 87, 95, 106] rfl (K81 _ S79)
          intro w84 S85
          refine s_v (r_move rfl) rfl rfl rfl <| ?_
          refine jw4 S85 (L' := [(146, .bool ((((((((decide ((pipeWrite p bs).2.2 = (pipeCheck p)) && decide ((pipeRead p most).2.2 = (pipeCheck p))) && decide ((pipeClose p).2 = (pipeCheck p))) && decide ((pipeShut p).2 = (pipeCheck p))) && decide (((pipeWrite p bs).2.1 + (((pipeRead p most).2.1).length : Int)) = 0)) && decide ((pipeWrite p bs).1 = ⟨[], 0, false, false⟩)) && decide ((pipeRead p most).1 = ⟨[], 0, false, false⟩)) && decide ((pipeClose p).1 = ⟨[], 0, false, false⟩)))), (0, .agg #[.slice oa p.b.length cap, .int .i64 p.room, .bool p.closed, .bool p.shut]), (1, .slice ob bs.length cbp), (2, .int .i64 most), (3, .int .i64 room), (4, .pointer (some ⟨b2, 0, none⟩)), (8, .bool false), (9, .pointer (some ⟨b7, 0, none⟩)), (10, .int .i64 ((pipeNew room).2)), (11, .pointer (some ⟨b14, 0, none⟩)), (12, .int .i64 ((pipeWrite p bs).2.1)), (13, .int .i64 ((pipeWrite p bs).2.2)), (14, .pointer (some ⟨b21, 0, none⟩)), (15, .slice ob18 (((pipeRead p most).2.1).length) cb18), (16, .int .i64 ((pipeRead p most).2.2)), (17, .pointer (some ⟨b28, 0, none⟩)), (18, .int .i64 ((pipeClose p).2)), (19, .pointer (some ⟨b35, 0, none⟩)), (20, .int .i64 ((pipeShut p).2)), (21, .pointer (some ⟨b40, 0, none⟩)), (22, .int .i64 (pipeCheck p)), (81, .bool (((!true || !decide ((pipeCheck p) = (pipeCheck p))) || !((p.closed && decide ((p.b).length = 0)) == (p.closed && decide ((p.b.length : Int) = 0)))))), (87, .bool ((decide (room < 0) || decide (1000 < room)))), (95, .bool ((!decide ((pipeNew room).2 = 3) || !(decide (((pipeNew room).1) = ⟨[], 0, false, false⟩))))), (106, .bool (!decide ((pipeCheck p) = 0)))]) ?KK87 (fun K87 => ?BK87)
          case BK87 =>
            refine w_bool (t := 142) rfl (fun hc860 => ?_) (fun hc860 => ?_)
            · have hc86 := hc860
              try simp only [decide_eq_true_eq, decide_eq_false_iff_not, Bool.and_eq_true, Bool.and_eq_false_imp, Bool.or_eq_true, Bool.or_eq_false_iff, Bool.not_eq_true', Bool.not_eq_false', Bool.not_not, Int.not_lt, Int.not_le] at hc86
              refine s_on rfl rfl rfl <|
                s_v (r_getk 2 S85 ty29 rfl rfl rfl rfl) rfl rfl rfl <|
                s_on rfl rfl rfl <|
                s_v (r_getk 0 S85 ty29 rfl rfl rfl rfl) rfl rfl rfl <|
                s_on rfl rfl rfl <|
                s_callV S85 rfl call21 (ref_SamePipe _ _ S85.mem (pipeClose p).1 ⟨[], 0, false, false⟩ P25 SlA.none) rfl rfl fun w88 S89 =>
                s_v (r_pickT rfl rfl rfl) rfl rfl rfl <| ?_
              refine w_eq (t := 146) (v := .bool ((((((((decide ((pipeWrite p bs).2.2 = (pipeCheck p)) && decide ((pipeRead p most).2.2 = (pipeCheck p))) && decide ((pipeClose p).2 = (pipeCheck p))) && decide ((pipeShut p).2 = (pipeCheck p))) && decide (((pipeWrite p bs).2.1 + (((pipeRead p most).2.1).length : Int)) = 0)) && decide ((pipeWrite p bs).1 = ⟨[], 0, false, false⟩)) && decide ((pipeRead p most).1 = ⟨[], 0, false, false⟩)) && decide ((pipeClose p).1 = ⟨[], 0, false, false⟩)))) rfl (by rw [hc860]; first | simp only [Bool.true_and, Bool.false_and, Bool.true_or, Bool.false_or] | rfl) ?_
              exact w_only [146, 0, 1, 2, 3, 4, 8, 9, 10, 11, 12, 13, 14, 15, 16, 17, 18, 19, 20, 21, 22, 81, 87, 95, 106] rfl (K87 _ S89)
            · have hc86 := hc860
              try simp only [decide_eq_true_eq, decide_eq_false_iff_not, Bool.and_eq_true, Bool.and_eq_false_imp, Bool.or_eq_true, Bool.or_eq_false_iff, Bool.not_eq_true', Bool.not_eq_false', Bool.not_not, Int.not_lt, Int.not_le] at hc86
              refine s_off rfl rfl rfl rfl rfl rfl <|
                s_off rfl rfl rfl rfl rfl rfl <|
                s_off rfl rfl rfl rfl rfl rfl <|
                s_v (r_pickF rfl rfl rfl) rfl rfl rfl <| ?_
              refine w_eq (t := 146) (v := .bool ((((((((decide ((pipeWrite p bs).2.2 = (pipeCheck p)) && decide ((pipeRead p most).2.2 = (pipeCheck p))) && decide ((pipeClose p).2 = (pipeCheck p))) && decide ((pipeShut p).2 = (pipeCheck p))) && decide (((pipeWrite p bs).2.1 + (((pipeRead p most).2.1).length : Int)) = 0)) && decide ((pipeWrite p bs).1 = ⟨[], 0, false, false⟩)) && decide ((pipeRead p most).1 = ⟨[], 0, false, false⟩)) && decide ((pipeClose p).1 = ⟨[], 0, false, false⟩)))) rfl (by rw [hc860]; first | simp only [Bool.true_and, Bool.false_and, Bool.true_or, Bool.false_or] | rfl) ?_
              exact w_only [146, 0, 1, 2, 3, 4, 8, 9, 10, 11, 12, 13, 14, 15, 16, 17, 18, 19, 20, 21, 22, 81, 87, 95, 106] rfl (K87 _ S85)
          intro w90 S91
          refine s_v (r_move rfl) rfl rfl rfl <| ?_
          refine jw4 S91 (L' := [(151, .bool (((((((((decide ((pipeWrite p bs).2.2 = (pipeCheck p)) && decide ((pipeRead p most).2.2 = (pipeCheck p))) && decide ((pipeClose p).2 = (pipeCheck p))) && decide ((pipeShut p).2 = (pipeCheck p))) && decide (((pipeWrite p bs).2.1 + (((pipeRead p most).2.1).length : Int)) = 0)) && decide ((pipeWrite p bs).1 = ⟨[], 0, false, false⟩)) && decide ((pipeRead p most).1 = ⟨[], 0, false, false⟩)) && decide ((pipeClose p).1 = ⟨[], 0, false, false⟩)) && decide ((pipeShut p).1 = ⟨[], 0, false, false⟩)))), (0, .agg #[.slice oa p.b.length cap, .int .i64 p.room, .bool p.closed, .bool p.shut]), (1, .slice ob bs.length cbp), (2, .int .i64 most), (3, .int .i64 room), (4, .pointer (some ⟨b2, 0, none⟩)), (8, .bool false), (9, .pointer (some ⟨b7, 0, none⟩)), (10, .int .i64 ((pipeNew room).2)), (11, .pointer (some ⟨b14, 0, none⟩)), (12, .int .i64 ((pipeWrite p bs).2.1)), (13, .int .i64 ((pipeWrite p bs).2.2)), (14, .pointer (some ⟨b21, 0, none⟩)), (15, .slice ob18 (((pipeRead p most).2.1).length) cb18), (16, .int .i64 ((pipeRead p most).2.2)), (17, .pointer (some ⟨b28, 0, none⟩)), (18, .int .i64 ((pipeClose p).2)), (19, .pointer (some ⟨b35, 0, none⟩)), (20, .int .i64 ((pipeShut p).2)), (21, .pointer (some ⟨b40, 0, none⟩)), (22, .int .i64 (pipeCheck p)), (81, .bool (((!true || !decide ((pipeCheck p) = (pipeCheck p))) || !((p.closed && decide ((p.b).length = 0)) == (p.closed && decide ((p.b.length : Int) = 0)))))), (87, .bool ((decide (room < 0) || decide (1000 < room)))), (95, .bool ((!decide ((pipeNew room).2 = 3) || !(decide (((pipeNew room).1) = ⟨[], 0, false, false⟩))))), (106, .bool (!decide ((pipeCheck p) = 0)))]) ?KK93 (fun K93 => ?BK93)
          case BK93 =>
            refine w_bool (t := 147) rfl (fun hc920 => ?_) (fun hc920 => ?_)
            · have hc92 := hc920
              try simp only [decide_eq_true_eq, decide_eq_false_iff_not, Bool.and_eq_true, Bool.and_eq_false_imp, Bool.or_eq_true, Bool.or_eq_false_iff, Bool.not_eq_true', Bool.not_eq_false', Bool.not_not, Int.not_lt, Int.not_le] at hc92
              refine s_on rfl rfl rfl <|
                s_v (r_getk 1 S91 ty29 rfl rfl rfl rfl) rfl rfl rfl <|
                s_on rfl rfl rfl <|
                s_v (r_getk 0 S91 ty29 rfl rfl rfl rfl) rfl rfl rfl <|
                s_on rfl rfl rfl <|
                s_callV S91 rfl call21 (ref_SamePipe _ _ S91.mem (pipeShut p).1 ⟨[], 0, false, false⟩ P32 SlA.none) rfl rfl fun w94 S95 =>
                s_v (r_pickT rfl rfl rfl) rfl rfl rfl <| ?_
              refine w_eq (t := 151) (v := .bool (((((((((decide ((pipeWrite p bs).2.2 = (pipeCheck p)) && decide ((pipeRead p most).2.2 = (pipeCheck p))) && decide ((pipeClose p).2 = (pipeCheck p))) && decide ((pipeShut p).2 = (pipeCheck p))) && decide (((pipeWrite p bs).2.1 + (((pipeRead p most).2.1).length : Int)) = 0)) && decide ((pipeWrite p bs).1 = ⟨[], 0, false, false⟩)) && decide ((pipeRead p most).1 = ⟨[], 0, false, false⟩)) && decide ((pipeClose p).1 = ⟨[], 0, false, false⟩)) && decide ((pipeShut p).1 = ⟨[], 0, false, false⟩)))) rfl (by rw [hc920]; first | simp only [Bool.true_and, Bool.false_and, Bool.true_or, Bool.false_or] | rfl) ?_
              exact w_only [151, 0, 1, 2, 3, 4, 8, 9, 10, 11, 12, 13, 14, 15, 16, 17, 18, 19, 20, 21, 22, 81, 87, 95, 106] rfl (K93 _ S95)
            · have hc92 := hc920
              try simp only [decide_eq_true_eq, decide_eq_false_iff_not, Bool.and_eq_true, Bool.and_eq_false_imp, Bool.or_eq_true, Bool.or_eq_false_iff, Bool.not_eq_true', Bool.not_eq_false', Bool.not_not, Int.not_lt, Int.not_le] at hc92
              refine s_off rfl rfl rfl rfl rfl rfl <|
                s_off rfl rfl rfl rfl rfl rfl <|
                s_off rfl rfl rfl rfl rfl rfl <|
                s_v (r_pickF rfl rfl rfl) rfl rfl rfl <| ?_
              refine w_eq (t := 151) (v := .bool (((((((((decide ((pipeWrite p bs).2.2 = (pipeCheck p)) && decide ((pipeRead p most).2.2 = (pipeCheck p))) && decide ((pipeClose p).2 = (pipeCheck p))) && decide ((pipeShut p).2 = (pipeCheck p))) && decide (((pipeWrite p bs).2.1 + (((pipeRead p most).2.1).length : Int)) = 0)) && decide ((pipeWrite p bs).1 = ⟨[], 0, false, false⟩)) && decide ((pipeRead p most).1 = ⟨[], 0, false, false⟩)) && decide ((pipeClose p).1 = ⟨[], 0, false, false⟩)) && decide ((pipeShut p).1 = ⟨[], 0, false, false⟩)))) rfl (by rw [hc920]; first | simp only [Bool.true_and, Bool.false_and, Bool.true_or, Bool.false_or] | rfl) ?_
              exact w_only [151, 0, 1, 2, 3, 4, 8, 9, 10, 11, 12, 13, 14, 15, 16, 17, 18, 19, 20, 21, 22, 81, 87, 95, 106] rfl (K93 _ S91)
          intro w96 S97
          refine s_v (r_assign rfl) rfl rfl rfl <|
            s_end <|
            c_ret <|
            e_thenR <|
            f_retV S97 rfl (.tmp rfl .nil) ?_
          simp only [packV]; congr 1
          first | rfl | grind [pipeNew, pipeWrite, pipeRead, pipeClose, pipeShut, zPipe]
        · try simp only [decide_eq_true_eq, decide_eq_false_iff_not, Bool.and_eq_true, Bool.and_eq_false_imp, Bool.or_eq_true, Bool.or_eq_false_iff, Bool.not_eq_true', Bool.not_eq_false', Bool.not_not, Int.not_lt, Int.not_le] at hc65
          refine c_skip <|
            e_then <|
            c_region <|
            s_v (r_getk 6 S63 ty29 rfl rfl rfl rfl) rfl rfl rfl <|
            s_v (r_move rfl) rfl rfl rfl <|
            s_callM S63 rfl call22 (ref_Written _ _ S63.mem p F bs Fb (by omega)) rfl rfl fun w99 m99 u99 le99 S99 h99 => ?_
          replace F := F.up le99; replace Fb := Fb.up le99; replace P4 := P4.up le99; replace P11 := P11.up le99; replace P18 := P18.up le99; replace Q18 := Q18.up le99; replace P25 := P25.up le99; replace P32 := P32.up le99
          obtain ⟨_, rfl, oa98, ca98, rfl, P98⟩ := h99
          refine s_v (r_move rfl) rfl rfl rfl <|
            s_v (r_extract rfl rfl) rfl rfl rfl <|
            s_v (r_extract rfl rfl) rfl rfl rfl <|
            s_v (r_extract rfl rfl) rfl rfl rfl <|
            s_alloc (cs := #[.slice none 0 0, .int .i64 0, .bool false, .bool false]) S99 ty29 rfl rfl fun w100 b101 S102 =>
            s_setk (R' := ((b101, .cells #[.slice oa98 (((pipeWrite p bs).1.b).length) ca98, .int .i64 ((pipeWrite p bs).1.room), .bool ((pipeWrite p bs).1.closed), .bool ((pipeWrite p bs).1.shut)] 29) :: ((b40, .cells #[.slice none 0 0, .int .i64 0, .bool false, .bool false] 29) :: ((b35, .cells #[.slice oa32 (((pipeShut p).1.b).length) ca32, .int .i64 ((pipeShut p).1.room), .bool ((pipeShut p).1.closed), .bool ((pipeShut p).1.shut)] 29) :: ((b28, .cells #[.slice oa25 (((pipeClose p).1.b).length) ca25, .int .i64 ((pipeClose p).1.room), .bool ((pipeClose p).1.closed), .bool ((pipeClose p).1.shut)] 29) :: ((b21, .cells #[.slice oa18 (((pipeRead p most).1.b).length) ca18, .int .i64 ((pipeRead p most).1.room), .bool ((pipeRead p most).1.closed), .bool ((pipeRead p most).1.shut)] 29) :: ((b14, .cells #[.slice oa11 (((pipeWrite p bs).1.b).length) ca11, .int .i64 ((pipeWrite p bs).1.room), .bool ((pipeWrite p bs).1.closed), .bool ((pipeWrite p bs).1.shut)] 29) :: ((b7, .cells #[.slice oa4 ((((pipeNew room).1).b).length) ca4, .int .i64 (((pipeNew room).1).room), .bool (((pipeNew room).1).closed), .bool (((pipeNew room).1).shut)] 29) :: ((b2, .cells #[.slice oa p.b.length cap, .int .i64 p.room, .bool p.closed, .bool p.shut] 29) :: []))))))))) 0 S102 ty29 rfl rfl rfl (by simp [Value.oneCell', str]) rfl rfl rfl fun w103 S104 =>
            s_v (r_assign rfl) rfl rfl rfl <|
            s_v (r_assign rfl) rfl rfl rfl <|
            s_end <|
            c_seq <|
            c_region <|
            s_v (r_move rfl) rfl rfl rfl <|
            s_v (r_move rfl) rfl rfl rfl <|
            s_v (r_ii rfl rfl b_neq) rfl rfl rfl <|
            s_v (r_move rfl) rfl rfl rfl <| ?_
          refine j4 (L' := [(166, .bool ((!decide ((pipeWrite p bs).2.2 = (pipeWrite p bs).2.2) || !decide ((pipeWrite p bs).2.1 = (pipeWrite p bs).2.1)))), (0, .agg #[.slice oa p.b.length cap, .int .i64 p.room, .bool p.closed, .bool p.shut]), (1, .slice ob bs.length cbp), (2, .int .i64 most), (3, .int .i64 room), (4, .pointer (some ⟨b2, 0, none⟩)), (8, .bool false), (9, .pointer (some ⟨b7, 0, none⟩)), (10, .int .i64 ((pipeNew room).2)), (11, .pointer (some ⟨b14, 0, none⟩)), (12, .int .i64 ((pipeWrite p bs).2.1)), (13, .int .i64 ((pipeWrite p bs).2.2)), (14, .pointer (some ⟨b21, 0, none⟩)), (15, .slice ob18 (((pipeRead p most).2.1).length) cb18), (16, .int .i64 ((pipeRead p most).2.2)), (17, .pointer (some ⟨b28, 0, none⟩)), (18, .int .i64 ((pipeClose p).2)), (19, .pointer (some ⟨b35, 0, none⟩)), (20, .int .i64 ((pipeShut p).2)), (21, .pointer (some ⟨b40, 0, none⟩)), (22, .int .i64 (pipeCheck p)), (81, .bool (((!true || !decide ((pipeCheck p) = (pipeCheck p))) || !((p.closed && decide ((p.b).length = 0)) == (p.closed && decide ((p.b.length : Int) = 0)))))), (87, .bool ((decide (room < 0) || decide (1000 < room)))), (95, .bool ((!decide ((pipeNew room).2 = 3) || !(decide (((pipeNew room).1) = ⟨[], 0, false, false⟩))))), (106, .bool (!decide ((pipeCheck p) = 0))), (23, .pointer (some ⟨b101, 0, none⟩)), (24, .int .i64 ((pipeWrite p bs).2.1)), (25, .int .i64 ((pipeWrite p bs).2.2))]) ?KK106 (fun K106 => ?BK106)
          case BK106 =>
            refine w_bool (t := 162) rfl (fun hc1050 => ?_) (fun hc1050 => ?_)
            · have hc105 := hc1050
              try simp only [decide_eq_true_eq, decide_eq_false_iff_not, Bool.and_eq_true, Bool.and_eq_false_imp, Bool.or_eq_true, Bool.or_eq_false_iff, Bool.not_eq_true', Bool.not_eq_false', Bool.not_not, Int.not_lt, Int.not_le] at hc105
              refine s_off rfl rfl rfl rfl rfl rfl <|
                s_off rfl rfl rfl rfl rfl rfl <|
                s_off rfl rfl rfl rfl rfl rfl <|
                s_v (r_pickT rfl rfl rfl) rfl rfl rfl <| ?_
              refine w_eq (t := 166) (v := .bool ((!decide ((pipeWrite p bs).2.2 = (pipeWrite p bs).2.2) || !decide ((pipeWrite p bs).2.1 = (pipeWrite p bs).2.1)))) rfl (by rw [hc1050]; first | simp only [Bool.true_and, Bool.false_and, Bool.true_or, Bool.false_or] | rfl) ?_
              exact w_only [166, 0, 1, 2, 3, 4, 8, 9, 10, 11, 12, 13, 14, 15, 16, 17, 18, 19, 20, 21, 22, 81, 87, 95, 106, 23, 24, 25] rfl K106
            · have hc105 := hc1050
              try simp only [decide_eq_true_eq, decide_eq_false_iff_not, Bool.and_eq_true, Bool.and_eq_false_imp, Bool.or_eq_true, Bool.or_eq_false_iff, Bool.not_eq_true', Bool.not_eq_false', Bool.not_not, Int.not_lt, Int.not_le] at hc105
              refine s_on rfl rfl rfl <|
                s_v (r_move rfl) rfl rfl rfl <|
                s_on rfl rfl rfl <|
                s_v (r_move rfl) rfl rfl rfl <|
                s_on rfl rfl rfl <|
                s_v (r_ii rfl rfl b_neq) rfl rfl rfl <|
                s_v (r_pickF rfl rfl rfl) rfl rfl rfl <| ?_
              refine w_eq (t := 166) (v := .bool ((!decide ((pipeWrite p bs).2.2 = (pipeWrite p bs).2.2) || !decide ((pipeWrite p bs).2.1 = (pipeWrite p bs).2.1)))) rfl (by rw [hc1050]; first | simp only [Bool.true_and, Bool.false_and, Bool.true_or, Bool.false_or] | rfl) ?_
              exact w_only [166, 0, 1, 2, 3, 4, 8, 9, 10, 11, 12, 13, 14, 15, 16, 17, 18, 19, 20, 21, 22, 81, 87, 95, 106, 23, 24, 25] rfl K106
          refine s_v (r_move rfl) rfl rfl rfl <| ?_
          refine jw5 S104 (L' := [(172, .bool (((!decide ((pipeWrite p bs).2.2 = (pipeWrite p bs).2.2) || !decide ((pipeWrite p bs).2.1 = (pipeWrite p bs).2.1)) || !(decide ((pipeWrite p bs).1 = (pipeWrite p bs).1))))), (0, .agg #[.slice oa p.b.length cap, .int .i64 p.room, .bool p.closed, .bool p.shut]), (1, .slice ob bs.length cbp), (2, .int .i64 most), (3, .int .i64 room), (4, .pointer (some ⟨b2, 0, none⟩)), (8, .bool false), (9, .pointer (some ⟨b7, 0, none⟩)), (10, .int .i64 ((pipeNew room).2)), (11, .pointer (some ⟨b14, 0, none⟩)), (12, .int .i64 ((pipeWrite p bs).2.1)), (13, .int .i64 ((pipeWrite p bs).2.2)), (14, .pointer (some ⟨b21, 0, none⟩)), (15, .slice ob18 (((pipeRead p most).2.1).length) cb18), (16, .int .i64 ((pipeRead p most).2.2)), (17, .pointer (some ⟨b28, 0, none⟩)), (18, .int .i64 ((pipeClose p).2)), (19, .pointer (some ⟨b35, 0, none⟩)), (20, .int .i64 ((pipeShut p).2)), (21, .pointer (some ⟨b40, 0, none⟩)), (22, .int .i64 (pipeCheck p)), (81, .bool (((!true || !decide ((pipeCheck p) = (pipeCheck p))) || !((p.closed && decide ((p.b).length = 0)) == (p.closed && decide ((p.b.length : Int) = 0)))))), (87, .bool ((decide (room < 0) || decide (1000 < room)))), (95, .bool ((!decide ((pipeNew room).2 = 3) || !(decide (((pipeNew room).1) = ⟨[], 0, false, false⟩))))), (106, .bool (!decide ((pipeCheck p) = 0))), (23, .pointer (some ⟨b101, 0, none⟩)), (24, .int .i64 ((pipeWrite p bs).2.1)), (25, .int .i64 ((pipeWrite p bs).2.2))]) ?KK108 (fun K108 => ?BK108)
          case BK108 =>
            refine w_bool (t := 167) rfl (fun hc1070 => ?_) (fun hc1070 => ?_)
            · have hc107 := hc1070
              try simp only [decide_eq_true_eq, decide_eq_false_iff_not, Bool.and_eq_true, Bool.and_eq_false_imp, Bool.or_eq_true, Bool.or_eq_false_iff, Bool.not_eq_true', Bool.not_eq_false', Bool.not_not, Int.not_lt, Int.not_le] at hc107
              refine s_off rfl rfl rfl rfl rfl rfl <|
                s_off rfl rfl rfl rfl rfl rfl <|
                s_off rfl rfl rfl rfl rfl rfl <|
                s_off rfl rfl rfl rfl rfl rfl <|
                s_v (r_pickT rfl rfl rfl) rfl rfl rfl <| ?_
              refine w_eq (t := 172) (v := .bool (((!decide ((pipeWrite p bs).2.2 = (pipeWrite p bs).2.2) || !decide ((pipeWrite p bs).2.1 = (pipeWrite p bs).2.1)) || !(decide ((pipeWrite p bs).1 = (pipeWrite p bs).1))))) rfl (by rw [hc1070]; first | simp only [Bool.true_and, Bool.false_and, Bool.true_or, Bool.false_or] | rfl) ?_
              exact w_only [172, 0, 1, 2, 3, 4, 8, 9, 10, 11, 12, 13, 14, 15, 16, 17, 18, 19, 20, 21, 22, 81, 87, 95, 106, 23, 24, 25] rfl (K108 _ S104)
            · have hc107 := hc1070
              try simp only [decide_eq_true_eq, decide_eq_false_iff_not, Bool.and_eq_true, Bool.and_eq_false_imp, Bool.or_eq_true, Bool.or_eq_false_iff, Bool.not_eq_true', Bool.not_eq_false', Bool.not_not, Int.not_lt, Int.not_le] at hc107
              refine s_on rfl rfl rfl <|
                s_v (r_getk 5 S104 ty29 rfl rfl rfl rfl) rfl rfl rfl <|
                s_on rfl rfl rfl <|
                s_v (r_getk 0 S104 ty29 rfl rfl rfl rfl) rfl rfl rfl <|
                s_on rfl rfl rfl <|
                s_callV S104 rfl call21 (ref_SamePipe _ _ S104.mem (pipeWrite p bs).1 (pipeWrite p bs).1 P11 P98) rfl rfl fun w109 S110 =>
                s_on rfl rfl rfl <|
                s_v (r_not rfl) rfl rfl rfl <|
                s_v (r_pickF rfl rfl rfl) rfl rfl rfl <| ?_
              refine w_eq (t := 172) (v := .bool (((!decide ((pipeWrite p bs).2.2 = (pipeWrite p bs).2.2) || !decide ((pipeWrite p bs).2.1 = (pipeWrite p bs).2.1)) || !(decide ((pipeWrite p bs).1 = (pipeWrite p bs).1))))) rfl (by rw [hc1070]; first | simp only [Bool.true_and, Bool.false_and, Bool.true_or, Bool.false_or] | rfl) ?_
              exact w_only [172, 0, 1, 2, 3, 4, 8, 9, 10, 11, 12, 13, 14, 15, 16, 17, 18, 19, 20, 21, 22, 81, 87, 95, 106, 23, 24, 25] rfl (K108 _ S110)
          intro w111 S112
          refine s_end <|
            c_if rfl (fun hc113 => ?_) (fun hc113 => ?_)
          · try simp only [decide_eq_true_eq, decide_eq_false_iff_not, Bool.and_eq_true, Bool.and_eq_false_imp, Bool.or_eq_true, Bool.or_eq_false_iff, Bool.not_eq_true', Bool.not_eq_false', Bool.not_not, Int.not_lt, Int.not_le] at hc113
            refine c_region <|
              s_v (r_assign rfl) rfl rfl rfl <|
              s_end <|
              c_ret <|
              e_thenR <|
              f_retV S112 rfl (.tmp rfl .nil) ?_
            simp only [packV]; congr 1
            first | rfl | grind [pipeNew, pipeWrite, pipeRead, pipeClose, pipeShut, zPipe]
          · try simp only [decide_eq_true_eq, decide_eq_false_iff_not, Bool.and_eq_true, Bool.and_eq_false_imp, Bool.or_eq_true, Bool.or_eq_false_iff, Bool.not_eq_true', Bool.not_eq_false', Bool.not_not, Int.not_lt, Int.not_le] at hc113
            refine c_skip <|
              e_then <|
              c_seq <|
              c_region <|
              s_v (r_move rfl) rfl rfl rfl <|
              s_v (r_ii rfl rfl b_lss) rfl rfl rfl <|
              s_v (r_move rfl) rfl rfl rfl <| ?_
            refine j3 (L' := [(178, .bool ((decide (most < 0) || decide (4000 < most)))), (0, .agg #[.slice oa p.b.length cap, .int .i64 p.room, .bool p.closed, .bool p.shut]), (1, .slice ob bs.length cbp), (2, .int .i64 most), (3, .int .i64 room), (4, .pointer (some ⟨b2, 0, none⟩)), (8, .bool false), (9, .pointer (some ⟨b7, 0, none⟩)), (10, .int .i64 ((pipeNew room).2)), (11, .pointer (some ⟨b14, 0, none⟩)), (12, .int .i64 ((pipeWrite p bs).2.1)), (13, .int .i64 ((pipeWrite p bs).2.2)), (14, .pointer (some ⟨b21, 0, none⟩)), (15, .slice ob18 (((pipeRead p most).2.1).length) cb18), (16, .int .i64 ((pipeRead p most).2.2)), (17, .pointer (some ⟨b28, 0, none⟩)), (18, .int .i64 ((pipeClose p).2)), (19, .pointer (some ⟨b35, 0, none⟩)), (20, .int .i64 ((pipeShut p).2)), (21, .pointer (some ⟨b40, 0, none⟩)), (22, .int .i64 (pipeCheck p)), (81, .bool (((!true || !decide ((pipeCheck p) = (pipeCheck p))) || !((p.closed && decide ((p.b).length = 0)) == (p.closed && decide ((p.b.length : Int) = 0)))))), (87, .bool ((decide (room < 0) || decide (1000 < room)))), (95, .bool ((!decide ((pipeNew room).2 = 3) || !(decide (((pipeNew room).1) = ⟨[], 0, false, false⟩))))), (106, .bool (!decide ((pipeCheck p) = 0))), (23, .pointer (some ⟨b101, 0, none⟩)), (24, .int .i64 ((pipeWrite p bs).2.1)), (25, .int .i64 ((pipeWrite p bs).2.2)), (172, .bool (((!decide ((pipeWrite p bs).2.2 = (pipeWrite p bs).2.2) || !decide ((pipeWrite p bs).2.1 = (pipeWrite p bs).2.1)) || !(decide ((pipeWrite p bs).1 = (pipeWrite p bs).1)))))]) ?KK115 (fun K115 => ?BK115)
            case BK115 =>
              refine w_bool (t := 175) rfl (fun hc1140 => ?_) (fun hc1140 => ?_)
              · have hc114 := hc1140
                try simp only [decide_eq_true_eq, decide_eq_false_iff_not, Bool.and_eq_true, Bool.and_eq_false_imp, Bool.or_eq_true, Bool.or_eq_false_iff, Bool.not_eq_true', Bool.not_eq_false', Bool.not_not, Int.not_lt, Int.not_le] at hc114
                refine s_off rfl rfl rfl rfl rfl rfl <|
                  s_off rfl rfl rfl rfl rfl rfl <|
                  s_v (r_pickT rfl rfl rfl) rfl rfl rfl <| ?_
                refine w_eq (t := 178) (v := .bool ((decide (most < 0) || decide (4000 < most)))) rfl (by rw [hc1140]; first | simp only [Bool.true_and, Bool.false_and, Bool.true_or, Bool.false_or] | rfl) ?_
                exact w_only [178, 0, 1, 2, 3, 4, 8, 9, 10, 11, 12, 13, 14, 15, 16, 17, 18, 19, 20, 21, 22, 81, 87, 95, 106, 23, 24, 25, 172] rfl K115
              · have hc114 := hc1140
                try simp only [decide_eq_true_eq, decide_eq_false_iff_not, Bool.and_eq_true, Bool.and_eq_false_imp, Bool.or_eq_true, Bool.or_eq_false_iff, Bool.not_eq_true', Bool.not_eq_false', Bool.not_not, Int.not_lt, Int.not_le] at hc114
                refine s_on rfl rfl rfl <|
                  s_v (r_move rfl) rfl rfl rfl <|
                  s_on rfl rfl rfl <|
                  s_v (r_ii rfl rfl b_gtr) rfl rfl rfl <|
                  s_v (r_pickF rfl rfl rfl) rfl rfl rfl <| ?_
                refine w_eq (t := 178) (v := .bool ((decide (most < 0) || decide (4000 < most)))) rfl (by rw [hc1140]; first | simp only [Bool.true_and, Bool.false_and, Bool.true_or, Bool.false_or] | rfl) ?_
                exact w_only [178, 0, 1, 2, 3, 4, 8, 9, 10, 11, 12, 13, 14, 15, 16, 17, 18, 19, 20, 21, 22, 81, 87, 95, 106, 23, 24, 25, 172] rfl K115
            refine s_end <|
              c_if rfl (fun hc116 => ?_) (fun hc116 => ?_)
            · try simp only [decide_eq_true_eq, decide_eq_false_iff_not, Bool.and_eq_true, Bool.and_eq_false_imp, Bool.or_eq_true, Bool.or_eq_false_iff, Bool.not_eq_true', Bool.not_eq_false', Bool.not_not, Int.not_lt, Int.not_le] at hc116
              refine c_region <|
                s_v (r_move rfl) rfl rfl rfl <|
                s_v (r_ii rfl rfl b_neq) rfl rfl rfl <|
                s_v (r_move rfl) rfl rfl rfl <| ?_
              refine j4 (L' := [(185, .bool ((!decide ((pipeRead p most).2.2 = 3) || !decide ((((pipeRead p most).2.1).length : Int) = 0)))), (0, .agg #[.slice oa p.b.length cap, .int .i64 p.room, .bool p.closed, .bool p.shut]), (1, .slice ob bs.length cbp), (2, .int .i64 most), (3, .int .i64 room), (4, .pointer (some ⟨b2, 0, none⟩)), (8, .bool false), (9, .pointer (some ⟨b7, 0, none⟩)), (10, .int .i64 ((pipeNew room).2)), (11, .pointer (some ⟨b14, 0, none⟩)), (12, .int .i64 ((pipeWrite p bs).2.1)), (13, .int .i64 ((pipeWrite p bs).2.2)), (14, .pointer (some ⟨b21, 0, none⟩)), (15, .slice ob18 (((pipeRead p most).2.1).length) cb18), (16, .int .i64 ((pipeRead p most).2.2)), (17, .pointer (some ⟨b28, 0, none⟩)), (18, .int .i64 ((pipeClose p).2)), (19, .pointer (some ⟨b35, 0, none⟩)), (20, .int .i64 ((pipeShut p).2)), (21, .pointer (some ⟨b40, 0, none⟩)), (22, .int .i64 (pipeCheck p)), (81, .bool (((!true || !decide ((pipeCheck p) = (pipeCheck p))) || !((p.closed && decide ((p.b).length = 0)) == (p.closed && decide ((p.b.length : Int) = 0)))))), (87, .bool ((decide (room < 0) || decide (1000 < room)))), (95, .bool ((!decide ((pipeNew room).2 = 3) || !(decide (((pipeNew room).1) = ⟨[], 0, false, false⟩))))), (106, .bool (!decide ((pipeCheck p) = 0))), (23, .pointer (some ⟨b101, 0, none⟩)), (24, .int .i64 ((pipeWrite p bs).2.1)), (25, .int .i64 ((pipeWrite p bs).2.2)), (172, .bool (((!decide ((pipeWrite p bs).2.2 = (pipeWrite p bs).2.2) || !decide ((pipeWrite p bs).2.1 = (pipeWrite p bs).2.1)) || !(decide ((pipeWrite p bs).1 = (pipeWrite p bs).1))))), (178, .bool ((decide (most < 0) || decide (4000 < most))))]) ?KK118 (fun K118 => ?BK118)
              case BK118 =>
                refine w_bool (t := 181) rfl (fun hc1170 => ?_) (fun hc1170 => ?_)
                · have hc117 := hc1170
                  try simp only [decide_eq_true_eq, decide_eq_false_iff_not, Bool.and_eq_true, Bool.and_eq_false_imp, Bool.or_eq_true, Bool.or_eq_false_iff, Bool.not_eq_true', Bool.not_eq_false', Bool.not_not, Int.not_lt, Int.not_le] at hc117
                  refine s_off rfl rfl rfl rfl rfl rfl <|
                    s_off rfl rfl rfl rfl rfl rfl <|
                    s_off rfl rfl rfl rfl rfl rfl <|
                    s_v (r_pickT rfl rfl rfl) rfl rfl rfl <| ?_
                  refine w_eq (t := 185) (v := .bool ((!decide ((pipeRead p most).2.2 = 3) || !decide ((((pipeRead p most).2.1).length : Int) = 0)))) rfl (by rw [hc1170]; first | simp only [Bool.true_and, Bool.false_and, Bool.true_or, Bool.false_or] | rfl) ?_
                  exact w_only [185, 0, 1, 2, 3, 4, 8, 9, 10, 11, 12, 13, 14, 15, 16, 17, 18, 19, 20, 21, 22, 81, 87, 95, 106, 23, 24, 25, 172, 178] rfl K118
                · have hc117 := hc1170
                  try simp only [decide_eq_true_eq, decide_eq_false_iff_not, Bool.and_eq_true, Bool.and_eq_false_imp, Bool.or_eq_true, Bool.or_eq_false_iff, Bool.not_eq_true', Bool.not_eq_false', Bool.not_not, Int.not_lt, Int.not_le] at hc117
                  refine s_on rfl rfl rfl <|
                    s_v (r_move rfl) rfl rfl rfl <|
                    s_on rfl rfl rfl <|
                    s_v (r_len rfl Try.underlying27) rfl rfl rfl <|
                    s_on rfl rfl rfl <|
                    s_v (r_ii rfl rfl b_neq) rfl rfl rfl <|
                    s_v (r_pickF rfl rfl rfl) rfl rfl rfl <| ?_
                  refine w_eq (t := 185) (v := .bool ((!decide ((pipeRead p most).2.2 = 3) || !decide ((((pipeRead p most).2.1).length : Int) = 0)))) rfl (by rw [hc1170]; first | simp only [Bool.true_and, Bool.false_and, Bool.true_or, Bool.false_or] | rfl) ?_
                  exact w_only [185, 0, 1, 2, 3, 4, 8, 9, 10, 11, 12, 13, 14, 15, 16, 17, 18, 19, 20, 21, 22, 81, 87, 95, 106, 23, 24, 25, 172, 178] rfl K118
              refine s_v (r_move rfl) rfl rfl rfl <| ?_
              refine jw5 S112 (L' := [(191, .bool (((!decide ((pipeRead p most).2.2 = 3) || !decide ((((pipeRead p most).2.1).length : Int) = 0)) || !(decide ((pipeRead p most).1 = ⟨[], 0, false, false⟩))))), (0, .agg #[.slice oa p.b.length cap, .int .i64 p.room, .bool p.closed, .bool p.shut]), (1, .slice ob bs.length cbp), (2, .int .i64 most), (3, .int .i64 room), (4, .pointer (some ⟨b2, 0, none⟩)), (8, .bool false), (9, .pointer (some ⟨b7, 0, none⟩)), (10, .int .i64 ((pipeNew room).2)), (11, .pointer (some ⟨b14, 0, none⟩)), (12, .int .i64 ((pipeWrite p bs).2.1)), (13, .int .i64 ((pipeWrite p bs).2.2)), (14, .pointer (some ⟨b21, 0, none⟩)), (15, .slice ob18 (((pipeRead p most).2.1).length) cb18), (16, .int .i64 ((pipeRead p most).2.2)), (17, .pointer (some ⟨b28, 0, none⟩)), (18, .int .i64 ((pipeClose p).2)), (19, .pointer (some ⟨b35, 0, none⟩)), (20, .int .i64 ((pipeShut p).2)), (21, .pointer (some ⟨b40, 0, none⟩)), (22, .int .i64 (pipeCheck p)), (81, .bool (((!true || !decide ((pipeCheck p) = (pipeCheck p))) || !((p.closed && decide ((p.b).length = 0)) == (p.closed && decide ((p.b.length : Int) = 0)))))), (87, .bool ((decide (room < 0) || decide (1000 < room)))), (95, .bool ((!decide ((pipeNew room).2 = 3) || !(decide (((pipeNew room).1) = ⟨[], 0, false, false⟩))))), (106, .bool (!decide ((pipeCheck p) = 0))), (23, .pointer (some ⟨b101, 0, none⟩)), (24, .int .i64 ((pipeWrite p bs).2.1)), (25, .int .i64 ((pipeWrite p bs).2.2)), (172, .bool (((!decide ((pipeWrite p bs).2.2 = (pipeWrite p bs).2.2) || !decide ((pipeWrite p bs).2.1 = (pipeWrite p bs).2.1)) || !(decide ((pipeWrite p bs).1 = (pipeWrite p bs).1))))), (178, .bool ((decide (most < 0) || decide (4000 < most))))]) ?KK120 (fun K120 => ?BK120)
              case BK120 =>
                refine w_bool (t := 186) rfl (fun hc1190 => ?_) (fun hc1190 => ?_)
                · have hc119 := hc1190
                  try simp only [decide_eq_true_eq, decide_eq_false_iff_not, Bool.and_eq_true, Bool.and_eq_false_imp, Bool.or_eq_true, Bool.or_eq_false_iff, Bool.not_eq_true', Bool.not_eq_false', Bool.not_not, Int.not_lt, Int.not_le] at hc119
                  refine s_off rfl rfl rfl rfl rfl rfl <|
                    s_off rfl rfl rfl rfl rfl rfl <|
                    s_off rfl rfl rfl rfl rfl rfl <|
                    s_off rfl rfl rfl rfl rfl rfl <|
                    s_v (r_pickT rfl rfl rfl) rfl rfl rfl <| ?_
                  refine w_eq (t := 191) (v := .bool (((!decide ((pipeRead p most).2.2 = 3) || !decide ((((pipeRead p most).2.1).length : Int) = 0)) || !(decide ((pipeRead p most).1 = ⟨[], 0, false, false⟩))))) rfl (by rw [hc1190]; first | simp only [Bool.true_and, Bool.false_and, Bool.true_or, Bool.false_or] | rfl) ?_
                  exact w_only [191, 0, 1, 2, 3, 4, 8, 9, 10, 11, 12, 13, 14, 15, 16, 17, 18, 19, 20, 21, 22, 81, 87, 95, 106, 23, 24, 25, 172, 178] rfl (K120 _ S112)
                · have hc119 := hc1190
                  try simp only [decide_eq_true_eq, decide_eq_false_iff_not, Bool.and_eq_true, Bool.and_eq_false_imp, Bool.or_eq_true, Bool.or_eq_false_iff, Bool.not_eq_true', Bool.not_eq_false', Bool.not_not, Int.not_lt, Int.not_le] at hc119
                  refine s_on rfl rfl rfl <|
                    s_v (r_getk 4 S112 ty29 rfl rfl rfl rfl) rfl rfl rfl <|
                    s_on rfl rfl rfl <|
                    s_v (r_getk 1 S112 ty29 rfl rfl rfl rfl) rfl rfl rfl <|
                    s_on rfl rfl rfl <|
                    s_callV S112 rfl call21 (ref_SamePipe _ _ S112.mem (pipeRead p most).1 ⟨[], 0, false, false⟩ P18 SlA.none) rfl rfl fun w121 S122 =>
                    s_on rfl rfl rfl <|
                    s_v (r_not rfl) rfl rfl rfl <|
                    s_v (r_pickF rfl rfl rfl) rfl rfl rfl <| ?_
                  refine w_eq (t := 191) (v := .bool (((!decide ((pipeRead p most).2.2 = 3) || !decide ((((pipeRead p most).2.1).length : Int) = 0)) || !(decide ((pipeRead p most).1 = ⟨[], 0, false, false⟩))))) rfl (by rw [hc1190]; first | simp only [Bool.true_and, Bool.false_and, Bool.true_or, Bool.false_or] | rfl) ?_
                  exact w_only [191, 0, 1, 2, 3, 4, 8, 9, 10, 11, 12, 13, 14, 15, 16, 17, 18, 19, 20, 21, 22, 81, 87, 95, 106, 23, 24, 25, 172, 178] rfl (K120 _ S122)
              intro w123 S124
              refine s_end <|
                c_if rfl (fun hc125 => ?_) (fun hc125 => ?_)
              · try simp only [decide_eq_true_eq, decide_eq_false_iff_not, Bool.and_eq_true, Bool.and_eq_false_imp, Bool.or_eq_true, Bool.or_eq_false_iff, Bool.not_eq_true', Bool.not_eq_false', Bool.not_not, Int.not_lt, Int.not_le] at hc125
                refine c_region <|
                  s_v (r_assign rfl) rfl rfl rfl <|
                  s_end <|
                  c_ret <|
                  e_thenR <|
                  f_retV S124 rfl (.tmp rfl .nil) ?_
                simp only [packV]; congr 1
                first | rfl | grind [pipeNew, pipeWrite, pipeRead, pipeClose, pipeShut, zPipe]
              · try simp only [decide_eq_true_eq, decide_eq_false_iff_not, Bool.and_eq_true, Bool.and_eq_false_imp, Bool.or_eq_true, Bool.or_eq_false_iff, Bool.not_eq_true', Bool.not_eq_false', Bool.not_not, Int.not_lt, Int.not_le] at hc125
                refine c_skip <|
                  e_then <|
                  c_region <|
                  s_v (r_getk 7 S124 ty29 rfl rfl rfl rfl) rfl rfl rfl <|
                  s_alloc (cs := #[.slice none 0 0, .int .i64 0, .bool false, .bool false]) S124 ty29 rfl rfl fun w126 b127 S128 =>
                  s_setk (R' := ((b127, .cells #[.slice oa p.b.length cap, .int .i64 p.room, .bool p.closed, .bool p.shut] 29) :: ((b101, .cells #[.slice oa98 (((pipeWrite p bs).1.b).length) ca98, .int .i64 ((pipeWrite p bs).1.room), .bool ((pipeWrite p bs).1.closed), .bool ((pipeWrite p bs).1.shut)] 29) :: ((b40, .cells #[.slice none 0 0, .int .i64 0, .bool false, .bool false] 29) :: ((b35, .cells #[.slice oa32 (((pipeShut p).1.b).length) ca32, .int .i64 ((pipeShut p).1.room), .bool ((pipeShut p).1.closed), .bool ((pipeShut p).1.shut)] 29) :: ((b28, .cells #[.slice oa25 (((pipeClose p).1.b).length) ca25, .int .i64 ((pipeClose p).1.room), .bool ((pipeClose p).1.closed), .bool ((pipeClose p).1.shut)] 29) :: ((b21, .cells #[.slice oa18 (((pipeRead p most).1.b).length) ca18, .int .i64 ((pipeRead p most).1.room), .bool ((pipeRead p most).1.closed), .bool ((pipeRead p most).1.shut)] 29) :: ((b14, .cells #[.slice oa11 (((pipeWrite p bs).1.b).length) ca11, .int .i64 ((pipeWrite p bs).1.room), .bool ((pipeWrite p bs).1.closed), .bool ((pipeWrite p bs).1.shut)] 29) :: ((b7, .cells #[.slice oa4 ((((pipeNew room).1).b).length) ca4, .int .i64 (((pipeNew room).1).room), .bool (((pipeNew room).1).closed), .bool (((pipeNew room).1).shut)] 29) :: ((b2, .cells #[.slice oa p.b.length cap, .int .i64 p.room, .bool p.closed, .bool p.shut] 29) :: [])))))))))) 0 S128 ty29 rfl rfl rfl (by simp [Value.oneCell', str]) rfl rfl rfl fun w129 S130 =>
                  s_end <|
                  c_region <|
                  s_v (r_fieldAddr0 rfl fld29_0) rfl rfl rfl <|
                  s_set (R' := ((b127, .cells #[.slice none 0 0, .int .i64 p.room, .bool p.closed, .bool p.shut] 29) :: ((b101, .cells #[.slice oa98 (((pipeWrite p bs).1.b).length) ca98, .int .i64 ((pipeWrite p bs).1.room), .bool ((pipeWrite p bs).1.closed), .bool ((pipeWrite p bs).1.shut)] 29) :: ((b40, .cells #[.slice none 0 0, .int .i64 0, .bool false, .bool false] 29) :: ((b35, .cells #[.slice oa32 (((pipeShut p).1.b).length) ca32, .int .i64 ((pipeShut p).1.room), .bool ((pipeShut p).1.closed), .bool ((pipeShut p).1.shut)] 29) :: ((b28, .cells #[.slice oa25 (((pipeClose p).1.b).length) ca25, .int .i64 ((pipeClose p).1.room), .bool ((pipeClose p).1.closed), .bool ((pipeClose p).1.shut)] 29) :: ((b21, .cells #[.slice oa18 (((pipeRead p most).1.b).length) ca18, .int .i64 ((pipeRead p most).1.room), .bool ((pipeRead p most).1.closed), .bool ((pipeRead p most).1.shut)] 29) :: ((b14, .cells #[.slice oa11 (((pipeWrite p bs).1.b).length) ca11, .int .i64 ((pipeWrite p bs).1.room), .bool ((pipeWrite p bs).1.closed), .bool ((pipeWrite p bs).1.shut)] 29) :: ((b7, .cells #[.slice oa4 ((((pipeNew room).1).b).length) ca4, .int .i64 (((pipeNew room).1).room), .bool (((pipeNew room).1).closed), .bool (((pipeNew room).1).shut)] 29) :: ((b2, .cells #[.slice oa p.b.length cap, .int .i64 p.room, .bool p.closed, .bool p.shut] 29) :: [])))))))))) 0 S130 ty27 rfl rfl rfl rfl rfl rfl fun w131 S132 =>
                  s_v (r_fieldAddr0 rfl fld29_3) rfl rfl rfl <|
                  s_set (R' := ((b127, .cells #[.slice none 0 0, .int .i64 p.room, .bool p.closed, .bool true] 29) :: ((b101, .cells #[.slice oa98 (((pipeWrite p bs).1.b).length) ca98, .int .i64 ((pipeWrite p bs).1.room), .bool ((pipeWrite p bs).1.closed), .bool ((pipeWrite p bs).1.shut)] 29) :: ((b40, .cells #[.slice none 0 0, .int .i64 0, .bool false, .bool false] 29) :: ((b35, .cells #[.slice oa32 (((pipeShut p).1.b).length) ca32, .int .i64 ((pipeShut p).1.room), .bool ((pipeShut p).1.closed), .bool ((pipeShut p).1.shut)] 29) :: ((b28, .cells #[.slice oa25 (((pipeClose p).1.b).length) ca25, .int .i64 ((pipeClose p).1.room), .bool ((pipeClose p).1.closed), .bool ((pipeClose p).1.shut)] 29) :: ((b21, .cells #[.slice oa18 (((pipeRead p most).1.b).length) ca18, .int .i64 ((pipeRead p most).1.room), .bool ((pipeRead p most).1.closed), .bool ((pipeRead p most).1.shut)] 29) :: ((b14, .cells #[.slice oa11 (((pipeWrite p bs).1.b).length) ca11, .int .i64 ((pipeWrite p bs).1.room), .bool ((pipeWrite p bs).1.closed), .bool ((pipeWrite p bs).1.shut)] 29) :: ((b7, .cells #[.slice oa4 ((((pipeNew room).1).b).length) ca4, .int .i64 (((pipeNew room).1).room), .bool (((pipeNew room).1).closed), .bool (((pipeNew room).1).shut)] 29) :: ((b2, .cells #[.slice oa p.b.length cap, .int .i64 p.room, .bool p.closed, .bool p.shut] 29) :: [])))))))))) 0 S132 ty4 rfl rfl rfl rfl rfl rfl fun w133 S134 =>
                  s_end <|
                  c_seq <|
                  c_region <|
                  s_v (r_move rfl) rfl rfl rfl <|
                  s_v (r_ii rfl rfl b_neq) rfl rfl rfl <|
                  s_v (r_move rfl) rfl rfl rfl <| ?_
                refine jw5 S134 (L' := [(230, .bool ((!decide ((pipeShut p).2 = 0) || !(decide ((pipeShut p).1 = ⟨[], p.room, p.closed, true⟩))))), (0, .agg #[.slice oa p.b.length cap, .int .i64 p.room, .bool p.closed, .bool p.shut]), (1, .slice ob bs.length cbp), (2, .int .i64 most), (3, .int .i64 room), (4, .pointer (some ⟨b2, 0, none⟩)), (8, .bool false), (9, .pointer (some ⟨b7, 0, none⟩)), (10, .int .i64 ((pipeNew room).2)), (11, .pointer (some ⟨b14, 0, none⟩)), (12, .int .i64 ((pipeWrite p bs).2.1)), (13, .int .i64 ((pipeWrite p bs).2.2)), (14, .pointer (some ⟨b21, 0, none⟩)), (15, .slice ob18 (((pipeRead p most).2.1).length) cb18), (16, .int .i64 ((pipeRead p most).2.2)), (17, .pointer (some ⟨b28, 0, none⟩)), (18, .int .i64 ((pipeClose p).2)), (19, .pointer (some ⟨b35, 0, none⟩)), (20, .int .i64 ((pipeShut p).2)), (21, .pointer (some ⟨b40, 0, none⟩)), (22, .int .i64 (pipeCheck p)), (81, .bool (((!true || !decide ((pipeCheck p) = (pipeCheck p))) || !((p.closed && decide ((p.b).length = 0)) == (p.closed && decide ((p.b.length : Int) = 0)))))), (87, .bool ((decide (room < 0) || decide (1000 < room)))), (95, .bool ((!decide ((pipeNew room).2 = 3) || !(decide (((pipeNew room).1) = ⟨[], 0, false, false⟩))))), (106, .bool (!decide ((pipeCheck p) = 0))), (23, .pointer (some ⟨b101, 0, none⟩)), (24, .int .i64 ((pipeWrite p bs).2.1)), (25, .int .i64 ((pipeWrite p bs).2.2)), (172, .bool (((!decide ((pipeWrite p bs).2.2 = (pipeWrite p bs).2.2) || !decide ((pipeWrite p bs).2.1 = (pipeWrite p bs).2.1)) || !(decide ((pipeWrite p bs).1 = (pipeWrite p bs).1))))), (178, .bool ((decide (most < 0) || decide (4000 < most)))), (191, .bool (((!decide ((pipeRead p most).2.2 = 3) || !decide ((((pipeRead p most).2.1).length : Int) = 0)) || !(decide ((pipeRead p most).1 = ⟨[], 0, false, false⟩))))), (28, .pointer (some ⟨b127, 0, none⟩))]) ?KK136 (fun K136 => ?BK136)
                case BK136 =>
                  refine w_bool (t := 225) rfl (fun hc1350 => ?_) (fun hc1350 => ?_)
                  · have hc135 := hc1350
                    try simp only [decide_eq_true_eq, decide_eq_false_iff_not, Bool.and_eq_true, Bool.and_eq_false_imp, Bool.or_eq_true, Bool.or_eq_false_iff, Bool.not_eq_true', Bool.not_eq_false', Bool.not_not, Int.not_lt, Int.not_le] at hc135
                    refine s_off rfl rfl rfl rfl rfl rfl <|
                      s_off rfl rfl rfl rfl rfl rfl <|
                      s_off rfl rfl rfl rfl rfl rfl <|
                      s_off rfl rfl rfl rfl rfl rfl <|
                      s_v (r_pickT rfl rfl rfl) rfl rfl rfl <| ?_
                    refine w_eq (t := 230) (v := .bool ((!decide ((pipeShut p).2 = 0) || !(decide ((pipeShut p).1 = ⟨[], p.room, p.closed, true⟩))))) rfl (by rw [hc1350]; first | simp only [Bool.true_and, Bool.false_and, Bool.true_or, Bool.false_or] | rfl) ?_
                    exact w_only [230, 0, 1, 2, 3, 4, 8, 9, 10, 11, 12, 13, 14, 15, 16, 17, 18, 19, 20, 21, 22, 81, 87, 95, 106, 23, 24, 25, 172, 178, 191, 28] rfl (K136 _ S134)
                  · have hc135 := hc1350
                    try simp only [decide_eq_true_eq, decide_eq_false_iff_not, Bool.and_eq_true, Bool.and_eq_false_imp, Bool.or_eq_true, Bool.or_eq_false_iff, Bool.not_eq_true', Bool.not_eq_false', Bool.not_not, Int.not_lt, Int.not_le] at hc135
                    refine s_on rfl rfl rfl <|
                      s_v (r_getk 3 S134 ty29 rfl rfl rfl rfl) rfl rfl rfl <|
                      s_on rfl rfl rfl <|
                      s_v (r_getk 0 S134 ty29 rfl rfl rfl rfl) rfl rfl rfl <|
                      s_on rfl rfl rfl <|
                      s_callV S134 rfl call21 (ref_SamePipe _ _ S134.mem (pipeShut p).1 ⟨[], p.room, p.closed, true⟩ P32 SlA.none) rfl rfl fun w137 S138 =>
                      s_on rfl rfl rfl <|
                      s_v (r_not rfl) rfl rfl rfl <|
                      s_v (r_pickF rfl rfl rfl) rfl rfl rfl <| ?_
                    refine w_eq (t := 230) (v := .bool ((!decide ((pipeShut p).2 = 0) || !(decide ((pipeShut p).1 = ⟨[], p.room, p.closed, true⟩))))) rfl (by rw [hc1350]; first | simp only [Bool.true_and, Bool.false_and, Bool.true_or, Bool.false_or] | rfl) ?_
                    exact w_only [230, 0, 1, 2, 3, 4, 8, 9, 10, 11, 12, 13, 14, 15, 16, 17, 18, 19, 20, 21, 22, 81, 87, 95, 106, 23, 24, 25, 172, 178, 191, 28] rfl (K136 _ S138)
                intro w139 S140
                refine s_end <|
                  c_if rfl (fun hc141 => ?_) (fun hc141 => ?_)
                · try simp only [decide_eq_true_eq, decide_eq_false_iff_not, Bool.and_eq_true, Bool.and_eq_false_imp, Bool.or_eq_true, Bool.or_eq_false_iff, Bool.not_eq_true', Bool.not_eq_false', Bool.not_not, Int.not_lt, Int.not_le] at hc141
                  refine c_region <|
                    s_v (r_assign rfl) rfl rfl rfl <|
                    s_end <|
                    c_ret <|
                    e_thenR <|
                    f_retV S140 rfl (.tmp rfl .nil) ?_
                  simp only [packV]; congr 1
                  first | rfl | grind [pipeNew, pipeWrite, pipeRead, pipeClose, pipeShut, zPipe]
                · try simp only [decide_eq_true_eq, decide_eq_false_iff_not, Bool.and_eq_true, Bool.and_eq_false_imp, Bool.or_eq_true, Bool.or_eq_false_iff, Bool.not_eq_true', Bool.not_eq_false', Bool.not_not, Int.not_lt, Int.not_le] at hc141
                  refine c_skip <|
                    e_then <|
                    c_seq <|
                    c_region <|
                    s_v (r_fieldAddr0 rfl fld29_2) rfl rfl rfl <|
                    s_v (r_get 8 S140 ty4 rfl rfl rfl) rfl rfl rfl <|
                    s_end <|
                    c_if rfl (fun hc142 => ?_) (fun hc142 => ?_)
                  · try simp only [decide_eq_true_eq, decide_eq_false_iff_not, Bool.and_eq_true, Bool.and_eq_false_imp, Bool.or_eq_true, Bool.or_eq_false_iff, Bool.not_eq_true', Bool.not_eq_false', Bool.not_not, Int.not_lt, Int.not_le] at hc142
                    refine c_region <|
                      s_v (r_move rfl) rfl rfl rfl <|
                      s_v (r_ii rfl rfl b_eql) rfl rfl rfl <|
                      s_v (r_move rfl) rfl rfl rfl <| ?_
                    refine jw4 S140 (L' := [(239, .bool ((decide ((pipeClose p).2 = 7) && decide ((pipeClose p).1 = ⟨[], 0, false, false⟩)))), (0, .agg #[.slice oa p.b.length cap, .int .i64 p.room, .bool p.closed, .bool p.shut]), (1, .slice ob bs.length cbp), (2, .int .i64 most), (3, .int .i64 room), (4, .pointer (some ⟨b2, 0, none⟩)), (8, .bool false), (9, .pointer (some ⟨b7, 0, none⟩)), (10, .int .i64 ((pipeNew room).2)), (11, .pointer (some ⟨b14, 0, none⟩)), (12, .int .i64 ((pipeWrite p bs).2.1)), (13, .int .i64 ((pipeWrite p bs).2.2)), (14, .pointer (some ⟨b21, 0, none⟩)), (15, .slice ob18 (((pipeRead p most).2.1).length) cb18), (16, .int .i64 ((pipeRead p most).2.2)), (17, .pointer (some ⟨b28, 0, none⟩)), (18, .int .i64 ((pipeClose p).2)), (19, .pointer (some ⟨b35, 0, none⟩)), (20, .int .i64 ((pipeShut p).2)), (21, .pointer (some ⟨b40, 0, none⟩)), (22, .int .i64 (pipeCheck p)), (81, .bool (((!true || !decide ((pipeCheck p) = (pipeCheck p))) || !((p.closed && decide ((p.b).length = 0)) == (p.closed && decide ((p.b.length : Int) = 0)))))), (87, .bool ((decide (room < 0) || decide (1000 < room)))), (95, .bool ((!decide ((pipeNew room).2 = 3) || !(decide (((pipeNew room).1) = ⟨[], 0, false, false⟩))))), (106, .bool (!decide ((pipeCheck p) = 0))), (23, .pointer (some ⟨b101, 0, none⟩)), (24, .int .i64 ((pipeWrite p bs).2.1)), (25, .int .i64 ((pipeWrite p bs).2.2)), (172, .bool (((!decide ((pipeWrite p bs).2.2 = (pipeWrite p bs).2.2) || !decide ((pipeWrite p bs).2.1 = (pipeWrite p bs).2.1)) || !(decide ((pipeWrite p bs).1 = (pipeWrite p bs).1))))), (178, .bool ((decide (most < 0) || decide (4000 < most)))), (191, .bool (((!decide ((pipeRead p most).2.2 = 3) || !decide ((((pipeRead p most).2.1).length : Int) = 0)) || !(decide ((pipeRead p most).1 = ⟨[], 0, false, false⟩))))), (28, .pointer (some ⟨b127, 0, none⟩)), (230, .bool ((!decide ((pipeShut p).2 = 0) || !(decide ((pipeShut p).1 = ⟨[], p.room, p.closed, true⟩))))), (232, .bool p.closed)]) ?KK144 (fun K144 => ?BK144)
                    case BK144 =>
                      refine w_bool (t := 235) rfl (fun hc1430 => ?_) (fun hc1430 => ?_)
                      · have hc143 := hc1430
                        try simp only [decide_eq_true_eq, decide_eq_false_iff_not, Bool.and_eq_true, Bool.and_eq_false_imp, Bool.or_eq_true, Bool.or_eq_false_iff, Bool.not_eq_true', Bool.not_eq_false', Bool.not_not, Int.not_lt, Int.not_le] at hc143
                        refine s_on rfl rfl rfl <|
                          s_v (r_getk 4 S140 ty29 rfl rfl rfl rfl) rfl rfl rfl <|
                          s_on rfl rfl rfl <|
                          s_v (r_getk 2 S140 ty29 rfl rfl rfl rfl) rfl rfl rfl <|
                          s_on rfl rfl rfl <|
                          s_callV S140 rfl call21 (ref_SamePipe _ _ S140.mem (pipeClose p).1 ⟨[], 0, false, false⟩ P25 SlA.none) rfl rfl fun w145 S146 =>
                          s_v (r_pickT rfl rfl rfl) rfl rfl rfl <| ?_
                        refine w_eq (t := 239) (v := .bool ((decide ((pipeClose p).2 = 7) && decide ((pipeClose p).1 = ⟨[], 0, false, false⟩)))) rfl (by rw [hc1430]; first | simp only [Bool.true_and, Bool.false_and, Bool.true_or, Bool.false_or] | rfl) ?_
                        exact w_only [239, 0, 1, 2, 3, 4, 8, 9, 10, 11, 12, 13, 14, 15, 16, 17, 18, 19, 20, 21, 22, 81, 87, 95, 106, 23, 24, 25, 172, 178, 191, 28, 230, 232] rfl (K144 _ S146)
                      · have hc143 := hc1430
                        try simp only [decide_eq_true_eq, decide_eq_false_iff_not, Bool.and_eq_true, Bool.and_eq_false_imp, Bool.or_eq_true, Bool.or_eq_false_iff, Bool.not_eq_true', Bool.not_eq_false', Bool.not_not, Int.not_lt, Int.not_le] at hc143
                        refine s_off rfl rfl rfl rfl rfl rfl <|
                          s_off rfl rfl rfl rfl rfl rfl <|
                          s_off rfl rfl rfl rfl rfl rfl <|
                          s_v (r_pickF rfl rfl rfl) rfl rfl rfl <| ?_
                        refine w_eq (t := 239) (v := .bool ((decide ((pipeClose p).2 = 7) && decide ((pipeClose p).1 = ⟨[], 0, false, false⟩)))) rfl (by rw [hc1430]; first | simp only [Bool.true_and, Bool.false_and, Bool.true_or, Bool.false_or] | rfl) ?_
                        exact w_only [239, 0, 1, 2, 3, 4, 8, 9, 10, 11, 12, 13, 14, 15, 16, 17, 18, 19, 20, 21, 22, 81, 87, 95, 106, 23, 24, 25, 172, 178, 191, 28, 230, 232] rfl (K144 _ S140)
                    intro w147 S148
                    refine s_v (r_assign rfl) rfl rfl rfl <|
                      s_end <|
                      c_ret <|
                      e_thenR <|
                      f_retV S148 rfl (.tmp rfl .nil) ?_
                    simp only [packV]; congr 1
                    first | rfl | grind [pipeNew, pipeWrite, pipeRead, pipeClose, pipeShut, zPipe]
                  · try simp only [decide_eq_true_eq, decide_eq_false_iff_not, Bool.and_eq_true, Bool.and_eq_false_imp, Bool.or_eq_true, Bool.or_eq_false_iff, Bool.not_eq_true', Bool.not_eq_false', Bool.not_not, Int.not_lt, Int.not_le] at hc142
                    refine c_skip <|
                      e_then <|
                      c_region <|
                      s_v (r_fieldAddr0 rfl fld29_2) rfl rfl rfl <|
                      s_set (R' := ((b127, .cells #[.slice none 0 0, .int .i64 p.room, .bool p.closed, .bool true] 29) :: ((b101, .cells #[.slice oa98 (((pipeWrite p bs).1.b).length) ca98, .int .i64 ((pipeWrite p bs).1.room), .bool ((pipeWrite p bs).1.closed), .bool ((pipeWrite p bs).1.shut)] 29) :: ((b40, .cells #[.slice none 0 0, .int .i64 0, .bool false, .bool false] 29) :: ((b35, .cells #[.slice oa32 (((pipeShut p).1.b).length) ca32, .int .i64 ((pipeShut p).1.room), .bool ((pipeShut p).1.closed), .bool ((pipeShut p).1.shut)] 29) :: ((b28, .cells #[.slice oa25 (((pipeClose p).1.b).length) ca25, .int .i64 ((pipeClose p).1.room), .bool ((pipeClose p).1.closed), .bool ((pipeClose p).1.shut)] 29) :: ((b21, .cells #[.slice oa18 (((pipeRead p most).1.b).length) ca18, .int .i64 ((pipeRead p most).1.room), .bool ((pipeRead p most).1.closed), .bool ((pipeRead p most).1.shut)] 29) :: ((b14, .cells #[.slice oa11 (((pipeWrite p bs).1.b).length) ca11, .int .i64 ((pipeWrite p bs).1.room), .bool ((pipeWrite p bs).1.closed), .bool ((pipeWrite p bs).1.shut)] 29) :: ((b7, .cells #[.slice oa4 ((((pipeNew room).1).b).length) ca4, .int .i64 (((pipeNew room).1).room), .bool (((pipeNew room).1).closed), .bool (((pipeNew room).1).shut)] 29) :: ((b2, .cells #[.slice oa p.b.length cap, .int .i64 p.room, .bool true, .bool p.shut] 29) :: [])))))))))) 8 S140 ty4 rfl rfl rfl rfl rfl rfl fun w149 S150 =>
                      s_end <|
                      c_region <|
                      s_v (r_move rfl) rfl rfl rfl <|
                      s_v (r_ii rfl rfl b_eql) rfl rfl rfl <|
                      s_v (r_move rfl) rfl rfl rfl <| ?_
                    refine jw4 S150 (L' := [(247, .bool ((decide ((pipeClose p).2 = 0) && decide ((pipeClose p).1 = ⟨p.b, p.room, true, p.shut⟩)))), (0, .agg #[.slice oa p.b.length cap, .int .i64 p.room, .bool p.closed, .bool p.shut]), (1, .slice ob bs.length cbp), (2, .int .i64 most), (3, .int .i64 room), (4, .pointer (some ⟨b2, 0, none⟩)), (8, .bool false), (9, .pointer (some ⟨b7, 0, none⟩)), (10, .int .i64 ((pipeNew room).2)), (11, .pointer (some ⟨b14, 0, none⟩)), (12, .int .i64 ((pipeWrite p bs).2.1)), (13, .int .i64 ((pipeWrite p bs).2.2)), (14, .pointer (some ⟨b21, 0, none⟩)), (15, .slice ob18 (((pipeRead p most).2.1).length) cb18), (16, .int .i64 ((pipeRead p most).2.2)), (17, .pointer (some ⟨b28, 0, none⟩)), (18, .int .i64 ((pipeClose p).2)), (19, .pointer (some ⟨b35, 0, none⟩)), (20, .int .i64 ((pipeShut p).2)), (21, .pointer (some ⟨b40, 0, none⟩)), (22, .int .i64 (pipeCheck p)), (81, .bool (((!true || !decide ((pipeCheck p) = (pipeCheck p))) || !((p.closed && decide ((p.b).length = 0)) == (p.closed && decide ((p.b.length : Int) = 0)))))), (87, .bool ((decide (room < 0) || decide (1000 < room)))), (95, .bool ((!decide ((pipeNew room).2 = 3) || !(decide (((pipeNew room).1) = ⟨[], 0, false, false⟩))))), (106, .bool (!decide ((pipeCheck p) = 0))), (23, .pointer (some ⟨b101, 0, none⟩)), (24, .int .i64 ((pipeWrite p bs).2.1)), (25, .int .i64 ((pipeWrite p bs).2.2)), (172, .bool (((!decide ((pipeWrite p bs).2.2 = (pipeWrite p bs).2.2) || !decide ((pipeWrite p bs).2.1 = (pipeWrite p bs).2.1)) || !(decide ((pipeWrite p bs).1 = (pipeWrite p bs).1))))), (178, .bool ((decide (most < 0) || decide (4000 < most)))), (191, .bool (((!decide ((pipeRead p most).2.2 = 3) || !decide ((((pipeRead p most).2.1).length : Int) = 0)) || !(decide ((pipeRead p most).1 = ⟨[], 0, false, false⟩))))), (28, .pointer (some ⟨b127, 0, none⟩)), (230, .bool ((!decide ((pipeShut p).2 = 0) || !(decide ((pipeShut p).1 = ⟨[], p.room, p.closed, true⟩))))), (232, .bool p.closed)]) ?KK152 (fun K152 => ?BK152)
                    case BK152 =>
                      refine w_bool (t := 243) rfl (fun hc1510 => ?_) (fun hc1510 => ?_)
                      · have hc151 := hc1510
                        try simp only [decide_eq_true_eq, decide_eq_false_iff_not, Bool.and_eq_true, Bool.and_eq_false_imp, Bool.or_eq_true, Bool.or_eq_false_iff, Bool.not_eq_true', Bool.not_eq_false', Bool.not_not, Int.not_lt, Int.not_le] at hc151
                        refine s_on rfl rfl rfl <|
                          s_v (r_getk 4 S150 ty29 rfl rfl rfl rfl) rfl rfl rfl <|
                          s_on rfl rfl rfl <|
                          s_v (r_getk 8 S150 ty29 rfl rfl rfl rfl) rfl rfl rfl <|
                          s_on rfl rfl rfl <|
                          s_callV S150 rfl call21 (ref_SamePipe _ _ S150.mem (pipeClose p).1 ⟨p.b, p.room, true, p.shut⟩ P25 F) rfl rfl fun w153 S154 =>
                          s_v (r_pickT rfl rfl rfl) rfl rfl rfl <| ?_
                        refine w_eq (t := 247) (v := .bool ((decide ((pipeClose p).2 = 0) && decide ((pipeClose p).1 = ⟨p.b, p.room, true, p.shut⟩)))) rfl (by rw [hc1510]; first | simp only [Bool.true_and, Bool.false_and, Bool.true_or, Bool.false_or] | rfl) ?_
                        exact w_only [247, 0, 1, 2, 3, 4, 8, 9, 10, 11, 12, 13, 14, 15, 16, 17, 18, 19, 20, 21, 22, 81, 87, 95, 106, 23, 24, 25, 172, 178, 191, 28, 230, 232] rfl (K152 _ S154)
                      · have hc151 := hc1510
                        try simp only [decide_eq_true_eq, decide_eq_false_iff_not, Bool.and_eq_true, Bool.and_eq_false_imp, Bool.or_eq_true, Bool.or_eq_false_iff, Bool.not_eq_true', Bool.not_eq_false', Bool.not_not, Int.not_lt, Int.not_le] at hc151
                        refine s_off rfl rfl rfl rfl rfl rfl <|
                          s_off rfl rfl rfl rfl rfl rfl <|
                          s_off rfl rfl rfl rfl rfl rfl <|
                          s_v (r_pickF rfl rfl rfl) rfl rfl rfl <| ?_
                        refine w_eq (t := 247) (v := .bool ((decide ((pipeClose p).2 = 0) && decide ((pipeClose p).1 = ⟨p.b, p.room, true, p.shut⟩)))) rfl (by rw [hc1510]; first | simp only [Bool.true_and, Bool.false_and, Bool.true_or, Bool.false_or] | rfl) ?_
                        exact w_only [247, 0, 1, 2, 3, 4, 8, 9, 10, 11, 12, 13, 14, 15, 16, 17, 18, 19, 20, 21, 22, 81, 87, 95, 106, 23, 24, 25, 172, 178, 191, 28, 230, 232] rfl (K152 _ S150)
                    intro w155 S156
                    refine s_v (r_assign rfl) rfl rfl rfl <|
                      s_end <|
                      c_ret <|
                      f_retV S156 rfl (.tmp rfl .nil) ?_
                    simp only [packV]; congr 1
                    first | rfl | grind [pipeNew, pipeWrite, pipeRead, pipeClose, pipeShut, zPipe]
            · try simp only [decide_eq_true_eq, decide_eq_false_iff_not, Bool.and_eq_true, Bool.and_eq_false_imp, Bool.or_eq_true, Bool.or_eq_false_iff, Bool.not_eq_true', Bool.not_eq_false', Bool.not_not, Int.not_lt, Int.not_le] at hc116
              refine c_region <|
                s_v (r_move rfl) rfl rfl rfl <|
                s_v (r_fieldAddr0 rfl fld29_0) rfl rfl rfl <|
                s_v (r_get 7 S112 ty27 rfl rfl rfl) rfl rfl rfl <|
                s_v (r_len rfl Try.underlying27) rfl rfl rfl <|
                s_v (r_min rfl rfl) rfl rfl rfl <|
                s_v (r_assign rfl) rfl rfl rfl <|
                s_end <|
                c_region <|
                s_v (r_getk 7 S112 ty29 rfl rfl rfl rfl) rfl rfl rfl <|
                s_alloc (cs := #[.slice none 0 0, .int .i64 0, .bool false, .bool false]) S112 ty29 rfl rfl fun w157 b158 S159 =>
                s_setk (R' := ((b158, .cells #[.slice oa p.b.length cap, .int .i64 p.room, .bool p.closed, .bool p.shut] 29) :: ((b101, .cells #[.slice oa98 (((pipeWrite p bs).1.b).length) ca98, .int .i64 ((pipeWrite p bs).1.room), .bool ((pipeWrite p bs).1.closed), .bool ((pipeWrite p bs).1.shut)] 29) :: ((b40, .cells #[.slice none 0 0, .int .i64 0, .bool false, .bool false] 29) :: ((b35, .cells #[.slice oa32 (((pipeShut p).1.b).length) ca32, .int .i64 ((pipeShut p).1.room), .bool ((pipeShut p).1.closed), .bool ((pipeShut p).1.shut)] 29) :: ((b28, .cells #[.slice oa25 (((pipeClose p).1.b).length) ca25, .int .i64 ((pipeClose p).1.room), .bool ((pipeClose p).1.closed), .bool ((pipeClose p).1.shut)] 29) :: ((b21, .cells #[.slice oa18 (((pipeRead p most).1.b).length) ca18, .int .i64 ((pipeRead p most).1.room), .bool ((pipeRead p most).1.closed), .bool ((pipeRead p most).1.shut)] 29) :: ((b14, .cells #[.slice oa11 (((pipeWrite p bs).1.b).length) ca11, .int .i64 ((pipeWrite p bs).1.room), .bool ((pipeWrite p bs).1.closed), .bool ((pipeWrite p bs).1.shut)] 29) :: ((b7, .cells #[.slice oa4 ((((pipeNew room).1).b).length) ca4, .int .i64 (((pipeNew room).1).room), .bool (((pipeNew room).1).closed), .bool (((pipeNew room).1).shut)] 29) :: ((b2, .cells #[.slice oa p.b.length cap, .int .i64 p.room, .bool p.closed, .bool p.shut] 29) :: [])))))))))) 0 S159 ty29 rfl rfl rfl (by simp [Value.oneCell', str]) rfl rfl rfl fun w160 S161 =>
                s_end <|
                c_region <|
                s_v (r_fieldAddr0 rfl fld29_0) rfl rfl rfl <|
                s_v (r_get 8 S161 ty27 rfl rfl rfl) rfl rfl rfl <|
                s_v (r_move rfl) rfl rfl rfl <|
                s_sliceL (min most.toNat p.b.length) F rfl rfl Try.underlying27 ty5 (by rw [Int.min_def, Nat.min_def]; split <;> split <;> omega) (Nat.min_le_right _ _) rfl fun oa162 cap162 F162 =>
                s_v (r_fieldAddr0 rfl fld29_0) rfl rfl rfl <|
                s_set (R' := ((b158, .cells #[.slice oa162 ((p.b.drop (min most.toNat p.b.length)).length) cap162, .int .i64 p.room, .bool p.closed, .bool p.shut] 29) :: ((b101, .cells #[.slice oa98 (((pipeWrite p bs).1.b).length) ca98, .int .i64 ((pipeWrite p bs).1.room), .bool ((pipeWrite p bs).1.closed), .bool ((pipeWrite p bs).1.shut)] 29) :: ((b40, .cells #[.slice none 0 0, .int .i64 0, .bool false, .bool false] 29) :: ((b35, .cells #[.slice oa32 (((pipeShut p).1.b).length) ca32, .int .i64 ((pipeShut p).1.room), .bool ((pipeShut p).1.closed), .bool ((pipeShut p).1.shut)] 29) :: ((b28, .cells #[.slice oa25 (((pipeClose p).1.b).length) ca25, .int .i64 ((pipeClose p).1.room), .bool ((pipeClose p).1.closed), .bool ((pipeClose p).1.shut)] 29) :: ((b21, .cells #[.slice oa18 (((pipeRead p most).1.b).length) ca18, .int .i64 ((pipeRead p most).1.room), .bool ((pipeRead p most).1.closed), .bool ((pipeRead p most).1.shut)] 29) :: ((b14, .cells #[.slice oa11 (((pipeWrite p bs).1.b).length) ca11, .int .i64 ((pipeWrite p bs).1.room), .bool ((pipeWrite p bs).1.closed), .bool ((pipeWrite p bs).1.shut)] 29) :: ((b7, .cells #[.slice oa4 ((((pipeNew room).1).b).length) ca4, .int .i64 (((pipeNew room).1).room), .bool (((pipeNew room).1).closed), .bool (((pipeNew room).1).shut)] 29) :: ((b2, .cells #[.slice oa p.b.length cap, .int .i64 p.room, .bool p.closed, .bool p.shut] 29) :: [])))))))))) 0 S161 ty27 rfl rfl rfl rfl rfl rfl fun w163 S164 =>
                s_end <|
                c_region <|
                s_v (r_move rfl) rfl rfl rfl <|
                s_v (r_ii rfl rfl b_neq) rfl rfl rfl <|
                s_v (r_move rfl) rfl rfl rfl <| ?_
              refine jw8 S164 (L' := [(213, .bool ((!decide ((pipeRead p most).2.2 = 0) || !(decide ((pipeRead p most).2.1 = (p.b.take (min most.toNat p.b.length))))))), (0, .agg #[.slice oa p.b.length cap, .int .i64 p.room, .bool p.closed, .bool p.shut]), (1, .slice ob bs.length cbp), (2, .int .i64 most), (3, .int .i64 room), (4, .pointer (some ⟨b2, 0, none⟩)), (8, .bool false), (9, .pointer (some ⟨b7, 0, none⟩)), (10, .int .i64 ((pipeNew room).2)), (11, .pointer (some ⟨b14, 0, none⟩)), (12, .int .i64 ((pipeWrite p bs).2.1)), (13, .int .i64 ((pipeWrite p bs).2.2)), (14, .pointer (some ⟨b21, 0, none⟩)), (15, .slice ob18 (((pipeRead p most).2.1).length) cb18), (16, .int .i64 ((pipeRead p most).2.2)), (17, .pointer (some ⟨b28, 0, none⟩)), (18, .int .i64 ((pipeClose p).2)), (19, .pointer (some ⟨b35, 0, none⟩)), (20, .int .i64 ((pipeShut p).2)), (21, .pointer (some ⟨b40, 0, none⟩)), (22, .int .i64 (pipeCheck p)), (81, .bool (((!true || !decide ((pipeCheck p) = (pipeCheck p))) || !((p.closed && decide ((p.b).length = 0)) == (p.closed && decide ((p.b.length : Int) = 0)))))), (87, .bool ((decide (room < 0) || decide (1000 < room)))), (95, .bool ((!decide ((pipeNew room).2 = 3) || !(decide (((pipeNew room).1) = ⟨[], 0, false, false⟩))))), (106, .bool (!decide ((pipeCheck p) = 0))), (23, .pointer (some ⟨b101, 0, none⟩)), (24, .int .i64 ((pipeWrite p bs).2.1)), (25, .int .i64 ((pipeWrite p bs).2.2)), (172, .bool (((!decide ((pipeWrite p bs).2.2 = (pipeWrite p bs).2.2) || !decide ((pipeWrite p bs).2.1 = (pipeWrite p bs).2.1)) || !(decide ((pipeWrite p bs).1 = (pipeWrite p bs).1))))), (178, .bool ((decide (most < 0) || decide (4000 < most)))), (26, .int .i64 (min most (p.b.length : Int))), (27, .pointer (some ⟨b158, 0, none⟩))]) ?KK166 (fun K166 => ?BK166)
              case BK166 =>
                refine w_bool (t := 205) rfl (fun hc1650 => ?_) (fun hc1650 => ?_)
                · have hc165 := hc1650
                  try simp only [decide_eq_true_eq, decide_eq_false_iff_not, Bool.and_eq_true, Bool.and_eq_false_imp, Bool.or_eq_true, Bool.or_eq_false_iff, Bool.not_eq_true', Bool.not_eq_false', Bool.not_not, Int.not_lt, Int.not_le] at hc165
                  refine s_off rfl rfl rfl rfl rfl rfl <|
                    s_off rfl rfl rfl rfl rfl rfl <|
                    s_off rfl rfl rfl rfl rfl rfl <|
                    s_off rfl rfl rfl rfl rfl rfl <|
                    s_off rfl rfl rfl rfl rfl rfl <|
                    s_off rfl rfl rfl rfl rfl rfl <|
                    s_off rfl rfl rfl rfl rfl rfl <|
                    s_v (r_pickT rfl rfl rfl) rfl rfl rfl <| ?_
                  refine w_eq (t := 213) (v := .bool ((!decide ((pipeRead p most).2.2 = 0) || !(decide ((pipeRead p most).2.1 = (p.b.take (min most.toNat p.b.length))))))) rfl (by rw [hc1650]; first | simp only [Bool.true_and, Bool.false_and, Bool.true_or, Bool.false_or] | rfl) ?_
                  exact w_only [213, 0, 1, 2, 3, 4, 8, 9, 10, 11, 12, 13, 14, 15, 16, 17, 18, 19, 20, 21, 22, 81, 87, 95, 106, 23, 24, 25, 172, 178, 26, 27] rfl (K166 _ S164)
                · have hc165 := hc1650
                  try simp only [decide_eq_true_eq, decide_eq_false_iff_not, Bool.and_eq_true, Bool.and_eq_false_imp, Bool.or_eq_true, Bool.or_eq_false_iff, Bool.not_eq_true', Bool.not_eq_false', Bool.not_not, Int.not_lt, Int.not_le] at hc165
                  refine s_on rfl rfl rfl <|
                    s_v (r_move rfl) rfl rfl rfl <|
                    s_on rfl rfl rfl <|
                    s_v (r_fieldAddr0 rfl fld29_0) rfl rfl rfl <|
                    s_on rfl rfl rfl <|
                    s_v (r_get 8 S164 ty27 rfl rfl rfl) rfl rfl rfl <|
                    s_on rfl rfl rfl <|
                    s_v (r_move rfl) rfl rfl rfl <|
                    s_on rfl rfl rfl <|
                    s_sliceH (min most.toNat p.b.length) F rfl rfl Try.underlying27 ty5 (by rw [Int.min_def, Nat.min_def]; split <;> split <;> omega) (Nat.min_le_right _ _) rfl fun F167 =>
                    s_on rfl rfl rfl <|
                    s_callV S164 rfl call15 (Equal_bytes _ _ S164.mem Q18 F167) rfl rfl fun w168 S169 =>
                    s_on rfl rfl rfl <|
                    s_v (r_not rfl) rfl rfl rfl <|
                    s_v (r_pickF rfl rfl rfl) rfl rfl rfl <| ?_
                  refine w_eq (t := 213) (v := .bool ((!decide ((pipeRead p most).2.2 = 0) || !(decide ((pipeRead p most).2.1 = (p.b.take (min most.toNat p.b.length))))))) rfl (by rw [hc1650]; first | simp only [Bool.true_and, Bool.false_and, Bool.true_or, Bool.false_or] | rfl) ?_
                  exact w_only [213, 0, 1, 2, 3, 4, 8, 9, 10, 11, 12, 13, 14, 15, 16, 17, 18, 19, 20, 21, 22, 81, 87, 95, 106, 23, 24, 25, 172, 178, 26, 27] rfl (K166 _ S169)
              intro w170 S171
              refine s_v (r_move rfl) rfl rfl rfl <| ?_
              refine jw5 S171 (L' := [(219, .bool (((!decide ((pipeRead p most).2.2 = 0) || !(decide ((pipeRead p most).2.1 = (p.b.take (min most.toNat p.b.length))))) || !(decide ((pipeRead p most).1 = ⟨(p.b.drop (min most.toNat p.b.length)), p.room, p.closed, p.shut⟩))))), (0, .agg #[.slice oa p.b.length cap, .int .i64 p.room, .bool p.closed, .bool p.shut]), (1, .slice ob bs.length cbp), (2, .int .i64 most), (3, .int .i64 room), (4, .pointer (some ⟨b2, 0, none⟩)), (8, .bool false), (9, .pointer (some ⟨b7, 0, none⟩)), (10, .int .i64 ((pipeNew room).2)), (11, .pointer (some ⟨b14, 0, none⟩)), (12, .int .i64 ((pipeWrite p bs).2.1)), (13, .int .i64 ((pipeWrite p bs).2.2)), (14, .pointer (some ⟨b21, 0, none⟩)), (15, .slice ob18 (((pipeRead p most).2.1).length) cb18), (16, .int .i64 ((pipeRead p most).2.2)), (17, .pointer (some ⟨b28, 0, none⟩)), (18, .int .i64 ((pipeClose p).2)), (19, .pointer (some ⟨b35, 0, none⟩)), (20, .int .i64 ((pipeShut p).2)), (21, .pointer (some ⟨b40, 0, none⟩)), (22, .int .i64 (pipeCheck p)), (81, .bool (((!true || !decide ((pipeCheck p) = (pipeCheck p))) || !((p.closed && decide ((p.b).length = 0)) == (p.closed && decide ((p.b.length : Int) = 0)))))), (87, .bool ((decide (room < 0) || decide (1000 < room)))), (95, .bool ((!decide ((pipeNew room).2 = 3) || !(decide (((pipeNew room).1) = ⟨[], 0, false, false⟩))))), (106, .bool (!decide ((pipeCheck p) = 0))), (23, .pointer (some ⟨b101, 0, none⟩)), (24, .int .i64 ((pipeWrite p bs).2.1)), (25, .int .i64 ((pipeWrite p bs).2.2)), (172, .bool (((!decide ((pipeWrite p bs).2.2 = (pipeWrite p bs).2.2) || !decide ((pipeWrite p bs).2.1 = (pipeWrite p bs).2.1)) || !(decide ((pipeWrite p bs).1 = (pipeWrite p bs).1))))), (178, .bool ((decide (most < 0) || decide (4000 < most)))), (26, .int .i64 (min most (p.b.length : Int))), (27, .pointer (some ⟨b158, 0, none⟩))]) ?KK173 (fun K173 => ?BK173)
              case BK173 =>
                refine w_bool (t := 214) rfl (fun hc1720 => ?_) (fun hc1720 => ?_)
                · have hc172 := hc1720
                  try simp only [decide_eq_true_eq, decide_eq_false_iff_not, Bool.and_eq_true, Bool.and_eq_false_imp, Bool.or_eq_true, Bool.or_eq_false_iff, Bool.not_eq_true', Bool.not_eq_false', Bool.not_not, Int.not_lt, Int.not_le] at hc172
                  refine s_off rfl rfl rfl rfl rfl rfl <|
                    s_off rfl rfl rfl rfl rfl rfl <|
                    s_off rfl rfl rfl rfl rfl rfl <|
                    s_off rfl rfl rfl rfl rfl rfl <|
                    s_v (r_pickT rfl rfl rfl) rfl rfl rfl <| ?_
                  refine w_eq (t := 219) (v := .bool (((!decide ((pipeRead p most).2.2 = 0) || !(decide ((pipeRead p most).2.1 = (p.b.take (min most.toNat p.b.length))))) || !(decide ((pipeRead p most).1 = ⟨(p.b.drop (min most.toNat p.b.length)), p.room, p.closed, p.shut⟩))))) rfl (by rw [hc1720]; first | simp only [Bool.true_and, Bool.false_and, Bool.true_or, Bool.false_or] | rfl) ?_
                  exact w_only [219, 0, 1, 2, 3, 4, 8, 9, 10, 11, 12, 13, 14, 15, 16, 17, 18, 19, 20, 21, 22, 81, 87, 95, 106, 23, 24, 25, 172, 178, 26, 27] rfl (K173 _ S171)
                · have hc172 := hc1720
                  try simp only [decide_eq_true_eq, decide_eq_false_iff_not, Bool.and_eq_true, Bool.and_eq_false_imp, Bool.or_eq_true, Bool.or_eq_false_iff, Bool.not_eq_true', Bool.not_eq_false', Bool.not_not, Int.not_lt, Int.not_le] at hc172
                  refine s_on rfl rfl rfl <|
                    s_v (r_getk 5 S171 ty29 rfl rfl rfl rfl) rfl rfl rfl <|
                    s_on rfl rfl rfl <|
                    s_v (r_getk 0 S171 ty29 rfl rfl rfl rfl) rfl rfl rfl <|
                    s_on rfl rfl rfl <|
                    s_callV S171 rfl call21 (ref_SamePipe _ _ S171.mem (pipeRead p most).1 ⟨(p.b.drop (min most.toNat p.b.length)), p.room, p.closed, p.shut⟩ P18 F162) rfl rfl fun w174 S175 =>
                    s_on rfl rfl rfl <|
                    s_v (r_not rfl) rfl rfl rfl <|
                    s_v (r_pickF rfl rfl rfl) rfl rfl rfl <| ?_
                  refine w_eq (t := 219) (v := .bool (((!decide ((pipeRead p most).2.2 = 0) || !(decide ((pipeRead p most).2.1 = (p.b.take (min most.toNat p.b.length))))) || !(decide ((pipeRead p most).1 = ⟨(p.b.drop (min most.toNat p.b.length)), p.room, p.closed, p.shut⟩))))) rfl (by rw [hc1720]; first | simp only [Bool.true_and, Bool.false_and, Bool.true_or, Bool.false_or] | rfl) ?_
                  exact w_only [219, 0, 1, 2, 3, 4, 8, 9, 10, 11, 12, 13, 14, 15, 16, 17, 18, 19, 20, 21, 22, 81, 87, 95, 106, 23, 24, 25, 172, 178, 26, 27] rfl (K173 _ S175)
              intro w176 S177
              refine s_end <|
                c_if rfl (fun hc178 => ?_) (fun hc178 => ?_)
              · try simp only [decide_eq_true_eq, decide_eq_false_iff_not, Bool.and_eq_true, Bool.and_eq_false_imp, Bool.or_eq_true, Bool.or_eq_false_iff, Bool.not_eq_true', Bool.not_eq_false', Bool.not_not, Int.not_lt, Int.not_le] at hc178
                refine c_region <|
                  s_v (r_assign rfl) rfl rfl rfl <|
                  s_end <|
                  c_ret <|
                  e_thenR <|
                  f_retV S177 rfl (.tmp rfl .nil) ?_
                simp only [packV]; congr 1
                first | rfl | grind [pipeNew, pipeWrite, pipeRead, pipeClose, pipeShut, zPipe]
              · try simp only [decide_eq_true_eq, decide_eq_false_iff_not, Bool.and_eq_true, Bool.and_eq_false_imp, Bool.or_eq_true, Bool.or_eq_false_iff, Bool.not_eq_true', Bool.not_eq_false', Bool.not_not, Int.not_lt, Int.not_le] at hc178
                refine c_skip <|
                  e_then <|
                  c_region <|
                  s_v (r_getk 8 S177 ty29 rfl rfl rfl rfl) rfl rfl rfl <|
                  s_alloc (cs := #[.slice none 0 0, .int .i64 0, .bool false, .bool false]) S177 ty29 rfl rfl fun w179 b180 S181 =>
                  s_setk (R' := ((b180, .cells #[.slice oa p.b.length cap, .int .i64 p.room, .bool p.closed, .bool p.shut] 29) :: ((b158, .cells #[.slice oa162 ((p.b.drop (min most.toNat p.b.length)).length) cap162, .int .i64 p.room, .bool p.closed, .bool p.shut] 29) :: ((b101, .cells #[.slice oa98 (((pipeWrite p bs).1.b).length) ca98, .int .i64 ((pipeWrite p bs).1.room), .bool ((pipeWrite p bs).1.closed), .bool ((pipeWrite p bs).1.shut)] 29) :: ((b40, .cells #[.slice none 0 0, .int .i64 0, .bool false, .bool false] 29) :: ((b35, .cells #[.slice oa32 (((pipeShut p).1.b).length) ca32, .int .i64 ((pipeShut p).1.room), .bool ((pipeShut p).1.closed), .bool ((pipeShut p).1.shut)] 29) :: ((b28, .cells #[.slice oa25 (((pipeClose p).1.b).length) ca25, .int .i64 ((pipeClose p).1.room), .bool ((pipeClose p).1.closed), .bool ((pipeClose p).1.shut)] 29) :: ((b21, .cells #[.slice oa18 (((pipeRead p most).1.b).length) ca18, .int .i64 ((pipeRead p most).1.room), .bool ((pipeRead p most).1.closed), .bool ((pipeRead p most).1.shut)] 29) :: ((b14, .cells #[.slice oa11 (((pipeWrite p bs).1.b).length) ca11, .int .i64 ((pipeWrite p bs).1.room), .bool ((pipeWrite p bs).1.closed), .bool ((pipeWrite p bs).1.shut)] 29) :: ((b7, .cells #[.slice oa4 ((((pipeNew room).1).b).length) ca4, .int .i64 (((pipeNew room).1).room), .bool (((pipeNew room).1).closed), .bool (((pipeNew room).1).shut)] 29) :: ((b2, .cells #[.slice oa p.b.length cap, .int .i64 p.room, .bool p.closed, .bool p.shut] 29) :: []))))))))))) 0 S181 ty29 rfl rfl rfl (by simp [Value.oneCell', str]) rfl rfl rfl fun w182 S183 =>
                  s_end <|
                  c_region <|
                  s_v (r_fieldAddr0 rfl fld29_0) rfl rfl rfl <|
                  s_set (R' := ((b180, .cells #[.slice none 0 0, .int .i64 p.room, .bool p.closed, .bool p.shut] 29) :: ((b158, .cells #[.slice oa162 ((p.b.drop (min most.toNat p.b.length)).length) cap162, .int .i64 p.room, .bool p.closed, .bool p.shut] 29) :: ((b101, .cells #[.slice oa98 (((pipeWrite p bs).1.b).length) ca98, .int .i64 ((pipeWrite p bs).1.room), .bool ((pipeWrite p bs).1.closed), .bool ((pipeWrite p bs).1.shut)] 29) :: ((b40, .cells #[.slice none 0 0, .int .i64 0, .bool false, .bool false] 29) :: ((b35, .cells #[.slice oa32 (((pipeShut p).1.b).length) ca32, .int .i64 ((pipeShut p).1.room), .bool ((pipeShut p).1.closed), .bool ((pipeShut p).1.shut)] 29) :: ((b28, .cells #[.slice oa25 (((pipeClose p).1.b).length) ca25, .int .i64 ((pipeClose p).1.room), .bool ((pipeClose p).1.closed), .bool ((pipeClose p).1.shut)] 29) :: ((b21, .cells #[.slice oa18 (((pipeRead p most).1.b).length) ca18, .int .i64 ((pipeRead p most).1.room), .bool ((pipeRead p most).1.closed), .bool ((pipeRead p most).1.shut)] 29) :: ((b14, .cells #[.slice oa11 (((pipeWrite p bs).1.b).length) ca11, .int .i64 ((pipeWrite p bs).1.room), .bool ((pipeWrite p bs).1.closed), .bool ((pipeWrite p bs).1.shut)] 29) :: ((b7, .cells #[.slice oa4 ((((pipeNew room).1).b).length) ca4, .int .i64 (((pipeNew room).1).room), .bool (((pipeNew room).1).closed), .bool (((pipeNew room).1).shut)] 29) :: ((b2, .cells #[.slice oa p.b.length cap, .int .i64 p.room, .bool p.closed, .bool p.shut] 29) :: []))))))))))) 0 S183 ty27 rfl rfl rfl rfl rfl rfl fun w184 S185 =>
                  s_v (r_fieldAddr0 rfl fld29_3) rfl rfl rfl <|
                  s_set (R' := ((b180, .cells #[.slice none 0 0, .int .i64 p.room, .bool p.closed, .bool true] 29) :: ((b158, .cells #[.slice oa162 ((p.b.drop (min most.toNat p.b.length)).length) cap162, .int .i64 p.room, .bool p.closed, .bool p.shut] 29) :: ((b101, .cells #[.slice oa98 (((pipeWrite p bs).1.b).length) ca98, .int .i64 ((pipeWrite p bs).1.room), .bool ((pipeWrite p bs).1.closed), .bool ((pipeWrite p bs).1.shut)] 29) :: ((b40, .cells #[.slice none 0 0, .int .i64 0, .bool false, .bool false] 29) :: ((b35, .cells #[.slice oa32 (((pipeShut p).1.b).length) ca32, .int .i64 ((pipeShut p).1.room), .bool ((pipeShut p).1.closed), .bool ((pipeShut p).1.shut)] 29) :: ((b28, .cells #[.slice oa25 (((pipeClose p).1.b).length) ca25, .int .i64 ((pipeClose p).1.room), .bool ((pipeClose p).1.closed), .bool ((pipeClose p).1.shut)] 29) :: ((b21, .cells #[.slice oa18 (((pipeRead p most).1.b).length) ca18, .int .i64 ((pipeRead p most).1.room), .bool ((pipeRead p most).1.closed), .bool ((pipeRead p most).1.shut)] 29) :: ((b14, .cells #[.slice oa11 (((pipeWrite p bs).1.b).length) ca11, .int .i64 ((pipeWrite p bs).1.room), .bool ((pipeWrite p bs).1.closed), .bool ((pipeWrite p bs).1.shut)] 29) :: ((b7, .cells #[.slice oa4 ((((pipeNew room).1).b).length) ca4, .int .i64 (((pipeNew room).1).room), .bool (((pipeNew room).1).closed), .bool (((pipeNew room).1).shut)] 29) :: ((b2, .cells #[.slice oa p.b.length cap, .int .i64 p.room, .bool p.closed, .bool p.shut] 29) :: []))))))))))) 0 S185 ty4 rfl rfl rfl rfl rfl rfl fun w186 S187 =>
                  s_end <|
                  c_seq <|
                  c_region <|
                  s_v (r_move rfl) rfl rfl rfl <|
                  s_v (r_ii rfl rfl b_neq) rfl rfl rfl <|
                  s_v (r_move rfl) rfl rfl rfl <| ?_
                refine jw5 S187 (L' := [(230, .bool ((!decide ((pipeShut p).2 = 0) || !(decide ((pipeShut p).1 = ⟨[], p.room, p.closed, true⟩))))), (0, .agg #[.slice oa p.b.length cap, .int .i64 p.room, .bool p.closed, .bool p.shut]), (1, .slice ob bs.length cbp), (2, .int .i64 most), (3, .int .i64 room), (4, .pointer (some ⟨b2, 0, none⟩)), (8, .bool false), (9, .pointer (some ⟨b7, 0, none⟩)), (10, .int .i64 ((pipeNew room).2)), (11, .pointer (some ⟨b14, 0, none⟩)), (12, .int .i64 ((pipeWrite p bs).2.1)), (13, .int .i64 ((pipeWrite p bs).2.2)), (14, .pointer (some ⟨b21, 0, none⟩)), (15, .slice ob18 (((pipeRead p most).2.1).length) cb18), (16, .int .i64 ((pipeRead p most).2.2)), (17, .pointer (some ⟨b28, 0, none⟩)), (18, .int .i64 ((pipeClose p).2)), (19, .pointer (some ⟨b35, 0, none⟩)), (20, .int .i64 ((pipeShut p).2)), (21, .pointer (some ⟨b40, 0, none⟩)), (22, .int .i64 (pipeCheck p)), (81, .bool (((!true || !decide ((pipeCheck p) = (pipeCheck p))) || !((p.closed && decide ((p.b).length = 0)) == (p.closed && decide ((p.b.length : Int) = 0)))))), (87, .bool ((decide (room < 0) || decide (1000 < room)))), (95, .bool ((!decide ((pipeNew room).2 = 3) || !(decide (((pipeNew room).1) = ⟨[], 0, false, false⟩))))), (106, .bool (!decide ((pipeCheck p) = 0))), (23, .pointer (some ⟨b101, 0, none⟩)), (24, .int .i64 ((pipeWrite p bs).2.1)), (25, .int .i64 ((pipeWrite p bs).2.2)), (172, .bool (((!decide ((pipeWrite p bs).2.2 = (pipeWrite p bs).2.2) || !decide ((pipeWrite p bs).2.1 = (pipeWrite p bs).2.1)) || !(decide ((pipeWrite p bs).1 = (pipeWrite p bs).1))))), (178, .bool ((decide (most < 0) || decide (4000 < most)))), (26, .int .i64 (min most (p.b.length : Int))), (27, .pointer (some ⟨b158, 0, none⟩)), (219, .bool (((!decide ((pipeRead p most).2.2 = 0) || !(decide ((pipeRead p most).2.1 = (p.b.take (min most.toNat p.b.length))))) || !(decide ((pipeRead p most).1 = ⟨(p.b.drop (min most.toNat p.b.length)), p.room, p.closed, p.shut⟩))))), (28, .pointer (some ⟨b180, 0, none⟩))]) ?KK189 (fun K189 => ?BK189)
                case BK189 =>
                  refine w_bool (t := 225) rfl (fun hc1880 => ?_) (fun hc1880 => ?_)
                  · have hc188 := hc1880
                    try simp only [decide_eq_true_eq, decide_eq_false_iff_not, Bool.and_eq_true, Bool.and_eq_false_imp, Bool.or_eq_true, Bool.or_eq_false_iff, Bool.not_eq_true', Bool.not_eq_false', Bool.not_not, Int.not_lt, Int.not_le] at hc188
                    refine s_off rfl rfl rfl rfl rfl rfl <|
                      s_off rfl rfl rfl rfl rfl rfl <|
                      s_off rfl rfl rfl rfl rfl rfl <|
                      s_off rfl rfl rfl rfl rfl rfl <|
                      s_v (r_pickT rfl rfl rfl) rfl rfl rfl <| ?_
                    refine w_eq (t := 230) (v := .bool ((!decide ((pipeShut p).2 = 0) || !(decide ((pipeShut p).1 = ⟨[], p.room, p.closed, true⟩))))) rfl (by rw [hc1880]; first | simp only [Bool.true_and, Bool.false_and, Bool.true_or, Bool.false_or] | rfl) ?_
                    exact w_only [230, 0, 1, 2, 3, 4, 8, 9, 10, 11, 12, 13, 14, 15, 16, 17, 18, 19, 20, 21, 22, 81, 87, 95, 106, 23, 24, 25, 172, 178, 26, 27, 219, 28] rfl (K189 _ S187)
                  · have hc188 := hc1880
                    try simp only [decide_eq_true_eq, decide_eq_false_iff_not, Bool.and_eq_true, Bool.and_eq_false_imp, Bool.or_eq_true, Bool.or_eq_false_iff, Bool.not_eq_true', Bool.not_eq_false', Bool.not_not, Int.not_lt, Int.not_le] at hc188
                    refine s_on rfl rfl rfl <|
                      s_v (r_getk 4 S187 ty29 rfl rfl rfl rfl) rfl rfl rfl <|
                      s_on rfl rfl rfl <|
                      s_v (r_getk 0 S187 ty29 rfl rfl rfl rfl) rfl rfl rfl <|
                      s_on rfl rfl rfl <|
                      s_callV S187 rfl call21 (ref_SamePipe _ _ S187.mem (pipeShut p).1 ⟨[], p.room, p.closed, true⟩ P32 SlA.none) rfl rfl fun w190 S191 =>
                      s_on rfl rfl rfl <|
                      s_v (r_not rfl) rfl rfl rfl <|
                      s_v (r_pickF rfl rfl rfl) rfl rfl rfl <| ?_
                    refine w_eq (t := 230) (v := .bool ((!decide ((pipeShut p).2 = 0) || !(decide ((pipeShut p).1 = ⟨[], p.room, p.closed, true⟩))))) rfl (by rw [hc1880]; first | simp only [Bool.true_and, Bool.false_and, Bool.true_or, Bool.false_or] | rfl) ?_
                    exact w_only [230, 0, 1, 2, 3, 4, 8, 9, 10, 11, 12, 13, 14, 15, 16, 17, 18, 19, 20, 21, 22, 81, 87, 95, 106, 23, 24, 25, 172, 178, 26, 27, 219, 28] rfl (K189 _ S191)
                intro w192 S193
                refine s_end <|
                  c_if rfl (fun hc194 => ?_) (fun hc194 => ?_)
                · try simp only [decide_eq_true_eq, decide_eq_false_iff_not, Bool.and_eq_true, Bool.and_eq_false_imp, Bool.or_eq_true, Bool.or_eq_false_iff, Bool.not_eq_true', Bool.not_eq_false', Bool.not_not, Int.not_lt, Int.not_le] at hc194
                  refine c_region <|
                    s_v (r_assign rfl) rfl rfl rfl <|
                    s_end <|
                    c_ret <|
                    e_thenR <|
                    f_retV S193 rfl (.tmp rfl .nil) ?_
                  simp only [packV]; congr 1
                  first | rfl | grind [pipeNew, pipeWrite, pipeRead, pipeClose, pipeShut, zPipe]
                · try simp only [decide_eq_true_eq, decide_eq_false_iff_not, Bool.and_eq_true, Bool.and_eq_false_imp, Bool.or_eq_true, Bool.or_eq_false_iff, Bool.not_eq_true', Bool.not_eq_false', Bool.not_not, Int.not_lt, Int.not_le] at hc194
                  refine c_skip <|
                    e_then <|
                    c_seq <|
                    c_region <|
                    s_v (r_fieldAddr0 rfl fld29_2) rfl rfl rfl <|
                    s_v (r_get 9 S193 ty4 rfl rfl rfl) rfl rfl rfl <|
                    s_end <|
                    c_if rfl (fun hc195 => ?_) (fun hc195 => ?_)
                  · try simp only [decide_eq_true_eq, decide_eq_false_iff_not, Bool.and_eq_true, Bool.and_eq_false_imp, Bool.or_eq_true, Bool.or_eq_false_iff, Bool.not_eq_true', Bool.not_eq_false', Bool.not_not, Int.not_lt, Int.not_le] at hc195
                    refine c_region <|
                      s_v (r_move rfl) rfl rfl rfl <|
                      s_v (r_ii rfl rfl b_eql) rfl rfl rfl <|
                      s_v (r_move rfl) rfl rfl rfl <| ?_
                    refine jw4 S193 (L' := [(239, .bool ((decide ((pipeClose p).2 = 7) && decide ((pipeClose p).1 = ⟨[], 0, false, false⟩)))), (0, .agg #[.slice oa p.b.length cap, .int .i64 p.room, .bool p.closed, .bool p.shut]), (1, .slice ob bs.length cbp), (2, .int .i64 most), (3, .int .i64 room), (4, .pointer (some ⟨b2, 0, none⟩)), (8, .bool false), (9, .pointer (some ⟨b7, 0, none⟩)), (10, .int .i64 ((pipeNew room).2)), (11, .pointer (some ⟨b14, 0, none⟩)), (12, .int .i64 ((pipeWrite p bs).2.1)), (13, .int .i64 ((pipeWrite p bs).2.2)), (14, .pointer (some ⟨b21, 0, none⟩)), (15, .slice ob18 (((pipeRead p most).2.1).length) cb18), (16, .int .i64 ((pipeRead p most).2.2)), (17, .pointer (some ⟨b28, 0, none⟩)), (18, .int .i64 ((pipeClose p).2)), (19, .pointer (some ⟨b35, 0, none⟩)), (20, .int .i64 ((pipeShut p).2)), (21, .pointer (some ⟨b40, 0, none⟩)), (22, .int .i64 (pipeCheck p)), (81, .bool (((!true || !decide ((pipeCheck p) = (pipeCheck p))) || !((p.closed && decide ((p.b).length = 0)) == (p.closed && decide ((p.b.length : Int) = 0)))))), (87, .bool ((decide (room < 0) || decide (1000 < room)))), (95, .bool ((!decide ((pipeNew room).2 = 3) || !(decide (((pipeNew room).1) = ⟨[], 0, false, false⟩))))), (106, .bool (!decide ((pipeCheck p) = 0))), (23, .pointer (some ⟨b101, 0, none⟩)), (24, .int .i64 ((pipeWrite p bs).2.1)), (25, .int .i64 ((pipeWrite p bs).2.2)), (172, .bool (((!decide ((pipeWrite p bs).2.2 = (pipeWrite p bs).2.2) || !decide ((pipeWrite p bs).2.1 = (pipeWrite p bs).2.1)) || !(decide ((pipeWrite p bs).1 = (pipeWrite p bs).1))))), (178, .bool ((decide (most < 0) || decide (4000 < most)))), (26, .int .i64 (min most (p.b.length : Int))), (27, .pointer (some ⟨b158, 0, none⟩)), (219, .bool (((!decide ((pipeRead p most).2.2 = 0) || !(decide ((pipeRead p most).2.1 = (p.b.take (min most.toNat p.b.length))))) || !(decide ((pipeRead p most).1 = ⟨(p.b.drop (min most.toNat p.b.length)), p.room, p.closed, p.shut⟩))))), (28, .pointer (some ⟨b180, 0, none⟩)), (230, .bool ((!decide ((pipeShut p).2 = 0) || !(decide ((pipeShut p).1 = ⟨[], p.room, p.closed, true⟩))))), (232, .bool p.closed)]) ?KK197 (fun K197 => ?BK197)
                    case BK197 =>
                      refine w_bool (t := 235) rfl (fun hc1960 => ?_) (fun hc1960 => ?_)
                      · have hc196 := hc1960
                        try simp only [decide_eq_true_eq, decide_eq_false_iff_not, Bool.and_eq_true, Bool.and_eq_false_imp, Bool.or_eq_true, Bool.or_eq_false_iff, Bool.not_eq_true', Bool.not_eq_false', Bool.not_not, Int.not_lt, Int.not_le] at hc196
                        refine s_on rfl rfl rfl <|
                          s_v (r_getk 5 S193 ty29 rfl rfl rfl rfl) rfl rfl rfl <|
                          s_on rfl rfl rfl <|
                          s_v (r_getk 3 S193 ty29 rfl rfl rfl rfl) rfl rfl rfl <|
                          s_on rfl rfl rfl <|
                          s_callV S193 rfl call21 (ref_SamePipe _ _ S193.mem (pipeClose p).1 ⟨[], 0, false, false⟩ P25 SlA.none) rfl rfl fun w198 S199 =>
                          s_v (r_pickT rfl rfl rfl) rfl rfl rfl <| ?_
                        refine w_eq (t := 239) (v := .bool ((decide ((pipeClose p).2 = 7) && decide ((pipeClose p).1 = ⟨[], 0, false, false⟩)))) rfl (by rw [hc1960]; first | simp only [Bool.true_and, Bool.false_and, Bool.true_or, Bool.false_or] | rfl) ?_
                        exact w_only [239, 0, 1, 2, 3, 4, 8, 9, 10, 11, 12, 13, 14, 15, 16, 17, 18, 19, 20, 21, 22, 81, 87, 95, 106, 23, 24, 25, 172, 178, 26, 27, 219, 28, 230, 232] rfl (K197 _ S199)
                      · have hc196 := hc1960
                        try simp only [decide_eq_true_eq, decide_eq_false_iff_not, Bool.and_eq_true, Bool.and_eq_false_imp, Bool.or_eq_true, Bool.or_eq_false_iff, Bool.not_eq_true', Bool.not_eq_false', Bool.not_not, Int.not_lt, Int.not_le] at hc196
                        refine s_off rfl rfl rfl rfl rfl rfl <|
                          s_off rfl rfl rfl rfl rfl rfl <|
                          s_off rfl rfl rfl rfl rfl rfl <|
                          s_v (r_pickF rfl rfl rfl) rfl rfl rfl <| ?_
                        refine w_eq (t := 239) (v := .bool ((decide ((pipeClose p).2 = 7) && decide ((pipeClose p).1 = ⟨[], 0, false, false⟩)))) rfl (by rw [hc1960]; first | simp only [Bool.true_and, Bool.false_and, Bool.true_or, Bool.false_or] | rfl) ?_
                        exact w_only [239, 0, 1, 2, 3, 4, 8, 9, 10, 11, 12, 13, 14, 15, 16, 17, 18, 19, 20, 21, 22, 81, 87, 95, 106, 23, 24, 25, 172, 178, 26, 27, 219, 28, 230, 232] rfl (K197 _ S193)
                    intro w200 S201
                    refine s_v (r_assign rfl) rfl rfl rfl <|
                      s_end <|
                      c_ret <|
                      e_thenR <|
                      f_retV S201 rfl (.tmp rfl .nil) ?_
                    simp only [packV]; congr 1
                    first | rfl | grind [pipeNew, pipeWrite, pipeRead, pipeClose, pipeShut, zPipe]
                  · try simp only [decide_eq_true_eq, decide_eq_false_iff_not, Bool.and_eq_true, Bool.and_eq_false_imp, Bool.or_eq_true, Bool.or_eq_false_iff, Bool.not_eq_true', Bool.not_eq_false', Bool.not_not, Int.not_lt, Int.not_le] at hc195
                    refine c_skip <|
                      e_then <|
                      c_region <|
                      s_v (r_fieldAddr0 rfl fld29_2) rfl rfl rfl <|
                      s_set (R' := ((b180, .cells #[.slice none 0 0, .int .i64 p.room, .bool p.closed, .bool true] 29) :: ((b158, .cells #[.slice oa162 ((p.b.drop (min most.toNat p.b.length)).length) cap162, .int .i64 p.room, .bool p.closed, .bool p.shut] 29) :: ((b101, .cells #[.slice oa98 (((pipeWrite p bs).1.b).length) ca98, .int .i64 ((pipeWrite p bs).1.room), .bool ((pipeWrite p bs).1.closed), .bool ((pipeWrite p bs).1.shut)] 29) :: ((b40, .cells #[.slice none 0 0, .int .i64 0, .bool false, .bool false] 29) :: ((b35, .cells #[.slice oa32 (((pipeShut p).1.b).length) ca32, .int .i64 ((pipeShut p).1.room), .bool ((pipeShut p).1.closed), .bool ((pipeShut p).1.shut)] 29) :: ((b28, .cells #[.slice oa25 (((pipeClose p).1.b).length) ca25, .int .i64 ((pipeClose p).1.room), .bool ((pipeClose p).1.closed), .bool ((pipeClose p).1.shut)] 29) :: ((b21, .cells #[.slice oa18 (((pipeRead p most).1.b).length) ca18, .int .i64 ((pipeRead p most).1.room), .bool ((pipeRead p most).1.closed), .bool ((pipeRead p most).1.shut)] 29) :: ((b14, .cells #[.slice oa11 (((pipeWrite p bs).1.b).length) ca11, .int .i64 ((pipeWrite p bs).1.room), .bool ((pipeWrite p bs).1.closed), .bool ((pipeWrite p bs).1.shut)] 29) :: ((b7, .cells #[.slice oa4 ((((pipeNew room).1).b).length) ca4, .int .i64 (((pipeNew room).1).room), .bool (((pipeNew room).1).closed), .bool (((pipeNew room).1).shut)] 29) :: ((b2, .cells #[.slice oa p.b.length cap, .int .i64 p.room, .bool true, .bool p.shut] 29) :: []))))))))))) 9 S193 ty4 rfl rfl rfl rfl rfl rfl fun w202 S203 =>
                      s_end <|
                      c_region <|
                      s_v (r_move rfl) rfl rfl rfl <|
                      s_v (r_ii rfl rfl b_eql) rfl rfl rfl <|
                      s_v (r_move rfl) rfl rfl rfl <| ?_
                    refine jw4 S203 (L' := [(247, .bool ((decide ((pipeClose p).2 = 0) && decide ((pipeClose p).1 = ⟨p.b, p.room, true, p.shut⟩)))), (0, .agg #[.slice oa p.b.length cap, .int .i64 p.room, .bool p.closed, .bool p.shut]), (1, .slice ob bs.length cbp), (2, .int .i64 most), (3, .int .i64 room), (4, .pointer (some ⟨b2, 0, none⟩)), (8, .bool false), (9, .pointer (some ⟨b7, 0, none⟩)), (10, .int .i64 ((pipeNew room).2)), (11, .pointer (some ⟨b14, 0, none⟩)), (12, .int .i64 ((pipeWrite p bs).2.1)), (13, .int .i64 ((pipeWrite p bs).2.2)), (14, .pointer (some ⟨b21, 0, none⟩)), (15, .slice ob18 (((pipeRead p most).2.1).length) cb18), (16, .int .i64 ((pipeRead p most).2.2)), (17, .pointer (some ⟨b28, 0, none⟩)), (18, .int .i64 ((pipeClose p).2)), (19, .pointer (some ⟨b35, 0, none⟩)), (20, .int .i64 ((pipeShut p).2)), (21, .pointer (some ⟨b40, 0, none⟩)), (22, .int .i64 (pipeCheck p)), (81, .bool (((!true || !decide ((pipeCheck p) = (pipeCheck p))) || !((p.closed && decide ((p.b).length = 0)) == (p.closed && decide ((p.b.length : Int) = 0)))))), (87, .bool ((decide (room < 0) || decide (1000 < room)))), (95, .bool ((!decide ((pipeNew room).2 = 3) || !(decide (((pipeNew room).1) = ⟨[], 0, false, false⟩))))), (106, .bool (!decide ((pipeCheck p) = 0))), (23, .pointer (some ⟨b101, 0, none⟩)), (24, .int .i64 ((pipeWrite p bs).2.1)), (25, .int .i64 ((pipeWrite p bs).2.2)), (172, .bool (((!decide ((pipeWrite p bs).2.2 = (pipeWrite p bs).2.2) || !decide ((pipeWrite p bs).2.1 = (pipeWrite p bs).2.1)) || !(decide ((pipeWrite p bs).1 = (pipeWrite p bs).1))))), (178, .bool ((decide (most < 0) || decide (4000 < most)))), (26, .int .i64 (min most (p.b.length : Int))), (27, .pointer (some ⟨b158, 0, none⟩)), (219, .bool (((!decide ((pipeRead p most).2.2 = 0) || !(decide ((pipeRead p most).2.1 = (p.b.take (min most.toNat p.b.length))))) || !(decide ((pipeRead p most).1 = ⟨(p.b.drop (min most.toNat p.b.length)), p.room, p.closed, p.shut⟩))))), (28, .pointer (some ⟨b180, 0, none⟩)), (230, .bool ((!decide ((pipeShut p).2 = 0) || !(decide ((pipeShut p).1 = ⟨[], p.room, p.closed, true⟩))))), (232, .bool p.closed)]) ?KK205 (fun K205 => ?BK205)
                    case BK205 =>
                      refine w_bool (t := 243) rfl (fun hc2040 => ?_) (fun hc2040 => ?_)
                      · have hc204 := hc2040
                        try simp only [decide_eq_true_eq, decide_eq_false_iff_not, Bool.and_eq_true, Bool.and_eq_false_imp, Bool.or_eq_true, Bool.or_eq_false_iff, Bool.not_eq_true', Bool.not_eq_false', Bool.not_not, Int.not_lt, Int.not_le] at hc204
                        refine s_on rfl rfl rfl <|
                          s_v (r_getk 5 S203 ty29 rfl rfl rfl rfl) rfl rfl rfl <|
                          s_on rfl rfl rfl <|
                          s_v (r_getk 9 S203 ty29 rfl rfl rfl rfl) rfl rfl rfl <|
                          s_on rfl rfl rfl <|
                          s_callV S203 rfl call21 (ref_SamePipe _ _ S203.mem (pipeClose p).1 ⟨p.b, p.room, true, p.shut⟩ P25 F) rfl rfl fun w206 S207 =>
                          s_v (r_pickT rfl rfl rfl) rfl rfl rfl <| ?_
                        refine w_eq (t := 247) (v := .bool ((decide ((pipeClose p).2 = 0) && decide ((pipeClose p).1 = ⟨p.b, p.room, true, p.shut⟩)))) rfl (by rw [hc2040]; first | simp only [Bool.true_and, Bool.false_and, Bool.true_or, Bool.false_or] | rfl) ?_
                        exact w_only [247, 0, 1, 2, 3, 4, 8, 9, 10, 11, 12, 13, 14, 15, 16, 17, 18, 19, 20, 21, 22, 81, 87, 95, 106, 23, 24, 25, 172, 178, 26, 27, 219, 28, 230, 232] rfl (K205 _ S207)
                      · have hc204 := hc2040
                        try simp only [decide_eq_true_eq, decide_eq_false_iff_not, Bool.and_eq_true, Bool.and_eq_false_imp, Bool.or_eq_true, Bool.or_eq_false_iff, Bool.not_eq_true', Bool.not_eq_false', Bool.not_not, Int.not_lt, Int.not_le] at hc204
                        refine s_off rfl rfl rfl rfl rfl rfl <|
                          s_off rfl rfl rfl rfl rfl rfl <|
                          s_off rfl rfl rfl rfl rfl rfl <|
                          s_v (r_pickF rfl rfl rfl) rfl rfl rfl <| ?_
                        refine w_eq (t := 247) (v := .bool ((decide ((pipeClose p).2 = 0) && decide ((pipeClose p).1 = ⟨p.b, p.room, true, p.shut⟩)))) rfl (by rw [hc2040]; first | simp only [Bool.true_and, Bool.false_and, Bool.true_or, Bool.false_or] | rfl) ?_
                        exact w_only [247, 0, 1, 2, 3, 4, 8, 9, 10, 11, 12, 13, 14, 15, 16, 17, 18, 19, 20, 21, 22, 81, 87, 95, 106, 23, 24, 25, 172, 178, 26, 27, 219, 28, 230, 232] rfl (K205 _ S203)
                    intro w208 S209
                    refine s_v (r_assign rfl) rfl rfl rfl <|
                      s_end <|
                      c_ret <|
                      f_retV S209 rfl (.tmp rfl .nil) ?_
                    simp only [packV]; congr 1
                    first | rfl | grind [pipeNew, pipeWrite, pipeRead, pipeClose, pipeShut, zPipe]
    · try simp only [decide_eq_true_eq, decide_eq_false_iff_not, Bool.and_eq_true, Bool.and_eq_false_imp, Bool.or_eq_true, Bool.or_eq_false_iff, Bool.not_eq_true', Bool.not_eq_false', Bool.not_not, Int.not_lt, Int.not_le] at hc57
      refine c_region <|
        s_v (r_move rfl) rfl rfl rfl <|
        s_v (r_ii rfl rfl b_neq) rfl rfl rfl <|
        s_v (r_move rfl) rfl rfl rfl <| ?_
      refine jw6 S53 (L' := [(104, .bool ((!decide ((pipeNew room).2 = 0) || !(decide (((pipeNew room).1) = ⟨[], room, false, false⟩))))), (0, .agg #[.slice oa p.b.length cap, .int .i64 p.room, .bool p.closed, .bool p.shut]), (1, .slice ob bs.length cbp), (2, .int .i64 most), (3, .int .i64 room), (4, .pointer (some ⟨b2, 0, none⟩)), (8, .bool false), (9, .pointer (some ⟨b7, 0, none⟩)), (10, .int .i64 ((pipeNew room).2)), (11, .pointer (some ⟨b14, 0, none⟩)), (12, .int .i64 ((pipeWrite p bs).2.1)), (13, .int .i64 ((pipeWrite p bs).2.2)), (14, .pointer (some ⟨b21, 0, none⟩)), (15, .slice ob18 (((pipeRead p most).2.1).length) cb18), (16, .int .i64 ((pipeRead p most).2.2)), (17, .pointer (some ⟨b28, 0, none⟩)), (18, .int .i64 ((pipeClose p).2)), (19, .pointer (some ⟨b35, 0, none⟩)), (20, .int .i64 ((pipeShut p).2)), (21, .pointer (some ⟨b40, 0, none⟩)), (22, .int .i64 (pipeCheck p)), (81, .bool (((!true || !decide ((pipeCheck p) = (pipeCheck p))) || !((p.closed && decide ((p.b).length = 0)) == (p.closed && decide ((p.b.length : Int) = 0)))))), (87, .bool ((decide (room < 0) || decide (1000 < room))))]) ?KK211 (fun K211 => ?BK211)
      case BK211 =>
        refine w_bool (t := 98) rfl (fun hc2100 => ?_) (fun hc2100 => ?_)
        · have hc210 := hc2100
          try simp only [decide_eq_true_eq, decide_eq_false_iff_not, Bool.and_eq_true, Bool.and_eq_false_imp, Bool.or_eq_true, Bool.or_eq_false_iff, Bool.not_eq_true', Bool.not_eq_false', Bool.not_not, Int.not_lt, Int.not_le] at hc210
          refine s_off rfl rfl rfl rfl rfl rfl <|
            s_off rfl rfl rfl rfl rfl rfl <|
            s_off rfl rfl rfl rfl rfl rfl <|
            s_off rfl rfl rfl rfl rfl rfl <|
            s_off rfl rfl rfl rfl rfl rfl <|
            s_v (r_pickT rfl rfl rfl) rfl rfl rfl <| ?_
          refine w_eq (t := 104) (v := .bool ((!decide ((pipeNew room).2 = 0) || !(decide (((pipeNew room).1) = ⟨[], room, false, false⟩))))) rfl (by rw [hc2100]; first | simp only [Bool.true_and, Bool.false_and, Bool.true_or, Bool.false_or] | rfl) ?_
          exact w_only [104, 0, 1, 2, 3, 4, 8, 9, 10, 11, 12, 13, 14, 15, 16, 17, 18, 19, 20, 21, 22, 81, 87] rfl (K211 _ S53)
        · have hc210 := hc2100
          try simp only [decide_eq_true_eq, decide_eq_false_iff_not, Bool.and_eq_true, Bool.and_eq_false_imp, Bool.or_eq_true, Bool.or_eq_false_iff, Bool.not_eq_true', Bool.not_eq_false', Bool.not_not, Int.not_lt, Int.not_le] at hc210
          refine s_on rfl rfl rfl <|
            s_v (r_getk 5 S53 ty29 rfl rfl rfl rfl) rfl rfl rfl <|
            s_on rfl rfl rfl <|
            s_v (r_move rfl) rfl rfl rfl <|
            s_on rfl rfl rfl <|
            s_v (r_build (cs := #[.slice none 0 0, .int .i64 room, .bool false, .bool false]) rfl (fun _ => by kernel_rfl)) rfl rfl rfl <|
            s_on rfl rfl rfl <|
            s_callV S53 rfl call21 (ref_SamePipe _ _ S53.mem ((pipeNew room).1) ⟨[], room, false, false⟩ P4 SlA.none) rfl rfl fun w212 S213 =>
            s_on rfl rfl rfl <|
            s_v (r_not rfl) rfl rfl rfl <|
            s_v (r_pickF rfl rfl rfl) rfl rfl rfl <| ?_
          refine w_eq (t := 104) (v := .bool ((!decide ((pipeNew room).2 = 0) || !(decide (((pipeNew room).1) = ⟨[], room, false, false⟩))))) rfl (by rw [hc2100]; first | simp only [Bool.true_and, Bool.false_and, Bool.true_or, Bool.false_or] | rfl) ?_
          exact w_only [104, 0, 1, 2, 3, 4, 8, 9, 10, 11, 12, 13, 14, 15, 16, 17, 18, 19, 20, 21, 22, 81, 87] rfl (K211 _ S213)
      intro w214 S215
      refine s_end <|
        c_if rfl (fun hc216 => ?_) (fun hc216 => ?_)
      · try simp only [decide_eq_true_eq, decide_eq_false_iff_not, Bool.and_eq_true, Bool.and_eq_false_imp, Bool.or_eq_true, Bool.or_eq_false_iff, Bool.not_eq_true', Bool.not_eq_false', Bool.not_not, Int.not_lt, Int.not_le] at hc216
        refine c_region <|
          s_v (r_assign rfl) rfl rfl rfl <|
          s_end <|
          c_ret <|
          e_thenR <|
          f_retV S215 rfl (.tmp rfl .nil) ?_
        simp only [packV]; congr 1
        first | rfl | grind [pipeNew, pipeWrite, pipeRead, pipeClose, pipeShut, zPipe]
      · try simp only [decide_eq_true_eq, decide_eq_false_iff_not, Bool.and_eq_true, Bool.and_eq_false_imp, Bool.or_eq_true, Bool.or_eq_false_iff, Bool.not_eq_true', Bool.not_eq_false', Bool.not_not, Int.not_lt, Int.not_le] at hc216
        refine c_skip <|
          e_then <|
          c_seq <|
          c_region <|
          s_v (r_move rfl) rfl rfl rfl <|
          s_v (r_ii rfl rfl b_neq) rfl rfl rfl <|
          s_end <|
          c_if rfl (fun hc217 => ?_) (fun hc217 => ?_)
        · try simp only [decide_eq_true_eq, decide_eq_false_iff_not, Bool.and_eq_true, Bool.and_eq_false_imp, Bool.or_eq_true, Bool.or_eq_false_iff, Bool.not_eq_true', Bool.not_eq_false', Bool.not_not, Int.not_lt, Int.not_le] at hc217
          refine c_region <|
            s_v (r_move rfl) rfl rfl rfl <|
            s_v (r_move rfl) rfl rfl rfl <|
            s_v (r_ii rfl rfl b_eql) rfl rfl rfl <|
            s_v (r_move rfl) rfl rfl rfl <| ?_
          refine j4 (L' := [(114, .bool ((decide ((pipeWrite p bs).2.2 = (pipeCheck p)) && decide ((pipeRead p most).2.2 = (pipeCheck p))))), (0, .agg #[.slice oa p.b.length cap, .int .i64 p.room, .bool p.closed, .bool p.shut]), (1, .slice ob bs.length cbp), (2, .int .i64 most), (3, .int .i64 room), (4, .pointer (some ⟨b2, 0, none⟩)), (8, .bool false), (9, .pointer (some ⟨b7, 0, none⟩)), (10, .int .i64 ((pipeNew room).2)), (11, .pointer (some ⟨b14, 0, none⟩)), (12, .int .i64 ((pipeWrite p bs).2.1)), (13, .int .i64 ((pipeWrite p bs).2.2)), (14, .pointer (some ⟨b21, 0, none⟩)), (15, .slice ob18 (((pipeRead p most).2.1).length) cb18), (16, .int .i64 ((pipeRead p most).2.2)), (17, .pointer (some ⟨b28, 0, none⟩)), (18, .int .i64 ((pipeClose p).2)), (19, .pointer (some ⟨b35, 0, none⟩)), (20, .int .i64 ((pipeShut p).2)), (21, .pointer (some ⟨b40, 0, none⟩)), (22, .int .i64 (pipeCheck p)), (81, .bool (((!true || !decide ((pipeCheck p) = (pipeCheck p))) || !((p.closed && decide ((p.b).length = 0)) == (p.closed && decide ((p.b.length : Int) = 0)))))), (87, .bool ((decide (room < 0) || decide (1000 < room)))), (104, .bool ((!decide ((pipeNew room).2 = 0) || !(decide (((pipeNew room).1) = ⟨[], room, false, false⟩))))), (106, .bool (!decide ((pipeCheck p) = 0)))]) ?KK219 (fun K219 => ?BK219)
          case BK219 =>
            refine w_bool (t := 110) rfl (fun hc2180 => ?_) (fun hc2180 => ?_)
            · have hc218 := hc2180
              try simp only [decide_eq_true_eq, decide_eq_false_iff_not, Bool.and_eq_true, Bool.and_eq_false_imp, Bool.or_eq_true, Bool.or_eq_false_iff, Bool.not_eq_true', Bool.not_eq_false', Bool.not_not, Int.not_lt, Int.not_le] at hc218
              refine s_on rfl rfl rfl <|
                s_v (r_move rfl) rfl rfl rfl <|
                s_on rfl rfl rfl <|
                s_v (r_move rfl) rfl rfl rfl <|
                s_on rfl rfl rfl <|
                s_v (r_ii rfl rfl b_eql) rfl rfl rfl <|
                s_v (r_pickT rfl rfl rfl) rfl rfl rfl <| ?_
              refine w_eq (t := 114) (v := .bool ((decide ((pipeWrite p bs).2.2 = (pipeCheck p)) && decide ((pipeRead p most).2.2 = (pipeCheck p))))) rfl (by rw [hc2180]; first | simp only [Bool.true_and, Bool.false_and, Bool.true_or, Bool.false_or] | rfl) ?_
              exact w_only [114, 0, 1, 2, 3, 4, 8, 9, 10, 11, 12, 13, 14, 15, 16, 17, 18, 19, 20, 21, 22, 81, 87, 104, 106] rfl K219
            · have hc218 := hc2180
              try simp only [decide_eq_true_eq, decide_eq_false_iff_not, Bool.and_eq_true, Bool.and_eq_false_imp, Bool.or_eq_true, Bool.or_eq_false_iff, Bool.not_eq_true', Bool.not_eq_false', Bool.not_not, Int.not_lt, Int.not_le] at hc218
              refine s_off rfl rfl rfl rfl rfl rfl <|
                s_off rfl rfl rfl rfl rfl rfl <|
                s_off rfl rfl rfl rfl rfl rfl <|
                s_v (r_pickF rfl rfl rfl) rfl rfl rfl <| ?_
              refine w_eq (t := 114) (v := .bool ((decide ((pipeWrite p bs).2.2 = (pipeCheck p)) && decide ((pipeRead p most).2.2 = (pipeCheck p))))) rfl (by rw [hc2180]; first | simp only [Bool.true_and, Bool.false_and, Bool.true_or, Bool.false_or] | rfl) ?_
              exact w_only [114, 0, 1, 2, 3, 4, 8, 9, 10, 11, 12, 13, 14, 15, 16, 17, 18, 19, 20, 21, 22, 81, 87, 104, 106] rfl K219
          refine s_v (r_move rfl) rfl rfl rfl <| ?_
          refine j4 (L' := [(119, .bool (((decide ((pipeWrite p bs).2.2 = (pipeCheck p)) && decide ((pipeRead p most).2.2 = (pipeCheck p))) && decide ((pipeClose p).2 = (pipeCheck p))))), (0, .agg #[.slice oa p.b.length cap, .int .i64 p.room, .bool p.closed, .bool p.shut]), (1, .slice ob bs.length cbp), (2, .int .i64 most), (3, .int .i64 room), (4, .pointer (some ⟨b2, 0, none⟩)), (8, .bool false), (9, .pointer (some ⟨b7, 0, none⟩)), (10, .int .i64 ((pipeNew room).2)), (11, .pointer (some ⟨b14, 0, none⟩)), (12, .int .i64 ((pipeWrite p bs).2.1)), (13, .int .i64 ((pipeWrite p bs).2.2)), (14, .pointer (some ⟨b21, 0, none⟩)), (15, .slice ob18 (((pipeRead p most).2.1).length) cb18), (16, .int .i64 ((pipeRead p most).2.2)), (17, .pointer (some ⟨b28, 0, none⟩)), (18, .int .i64 ((pipeClose p).2)), (19, .pointer (some ⟨b35, 0, none⟩)), (20, .int .i64 ((pipeShut p).2)), (21, .pointer (some ⟨b40, 0, none⟩)), (22, .int .i64 (pipeCheck p)), (81, .bool (((!true || !decide ((pipeCheck p) = (pipeCheck p))) || !((p.closed && decide ((p.b).length = 0)) == (p.closed && decide ((p.b.length : Int) = 0)))))), (87, .bool ((decide (room < 0) || decide (1000 < room)))), (104, .bool ((!decide ((pipeNew room).2 = 0) || !(decide (((pipeNew room).1) = ⟨[], room, false, false⟩))))), (106, .bool (!decide ((pipeCheck p) = 0)))]) ?KK221 (fun K221 => ?BK221)
          case BK221 =>
            refine w_bool (t := 115) rfl (fun hc2200 => ?_) (fun hc2200 => ?_)
            · have hc220 := hc2200
              try simp only [decide_eq_true_eq, decide_eq_false_iff_not, Bool.and_eq_true, Bool.and_eq_false_imp, Bool.or_eq_true, Bool.or_eq_false_iff, Bool.not_eq_true', Bool.not_eq_false', Bool.not_not, Int.not_lt, Int.not_le] at hc220
              refine s_on rfl rfl rfl <|
                s_v (r_move rfl) rfl rfl rfl <|
                s_on rfl rfl rfl <|
                s_v (r_move rfl) rfl rfl rfl <|
                s_on rfl rfl rfl <|
                s_v (r_ii rfl rfl b_eql) rfl rfl rfl <|
                s_v (r_pickT rfl rfl rfl) rfl rfl rfl <| ?_
              refine w_eq (t := 119) (v := .bool (((decide ((pipeWrite p bs).2.2 = (pipeCheck p)) && decide ((pipeRead p most).2.2 = (pipeCheck p))) && decide ((pipeClose p).2 = (pipeCheck p))))) rfl (by rw [hc2200]; first | simp only [Bool.true_and, Bool.false_and, Bool.true_or, Bool.false_or] | rfl) ?_
              exact w_only [119, 0, 1, 2, 3, 4, 8, 9, 10, 11, 12, 13, 14, 15, 16, 17, 18, 19, 20, 21, 22, 81, 87, 104, 106] rfl K221
            · have hc220 := hc2200
              try simp only [decide_eq_true_eq, decide_eq_false_iff_not, Bool.and_eq_true, Bool.and_eq_false_imp, Bool.or_eq_true, Bool.or_eq_false_iff, Bool.not_eq_true', Bool.not_eq_false', Bool.not_not, Int.not_lt, Int.not_le] at hc220
              refine s_off rfl rfl rfl rfl rfl rfl <|
                s_off rfl rfl rfl rfl rfl rfl <|
                s_off rfl rfl rfl rfl rfl rfl <|
                s_v (r_pickF rfl rfl rfl) rfl rfl rfl <| ?_
              refine w_eq (t := 119) (v := .bool (((decide ((pipeWrite p bs).2.2 = (pipeCheck p)) && decide ((pipeRead p most).2.2 = (pipeCheck p))) && decide ((pipeClose p).2 = (pipeCheck p))))) rfl (by rw [hc2200]; first | simp only [Bool.true_and, Bool.false_and, Bool.true_or, Bool.false_or] | rfl) ?_
              exact w_only [119, 0, 1, 2, 3, 4, 8, 9, 10, 11, 12, 13, 14, 15, 16, 17, 18, 19, 20, 21, 22, 81, 87, 104, 106] rfl K221
          refine s_v (r_move rfl) rfl rfl rfl <| ?_
          refine j4 (L' := [(124, .bool ((((decide ((pipeWrite p bs).2.2 = (pipeCheck p)) && decide ((pipeRead p most).2.2 = (pipeCheck p))) && decide ((pipeClose p).2 = (pipeCheck p))) && decide ((pipeShut p).2 = (pipeCheck p))))), (0, .agg #[.slice oa p.b.length cap, .int .i64 p.room, .bool p.closed, .bool p.shut]), (1, .slice ob bs.length cbp), (2, .int .i64 most), (3, .int .i64 room), (4, .pointer (some ⟨b2, 0, none⟩)), (8, .bool false), (9, .pointer (some ⟨b7, 0, none⟩)), (10, .int .i64 ((pipeNew room).2)), (11, .pointer (some ⟨b14, 0, none⟩)), (12, .int .i64 ((pipeWrite p bs).2.1)), (13, .int .i64 ((pipeWrite p bs).2.2)), (14, .pointer (some ⟨b21, 0, none⟩)), (15, .slice ob18 (((pipeRead p most).2.1).length) cb18), (16, .int .i64 ((pipeRead p most).2.2)), (17, .pointer (some ⟨b28, 0, none⟩)), (18, .int .i64 ((pipeClose p).2)), (19, .pointer (some ⟨b35, 0, none⟩)), (20, .int .i64 ((pipeShut p).2)), (21, .pointer (some ⟨b40, 0, none⟩)), (22, .int .i64 (pipeCheck p)), (81, .bool (((!true || !decide ((pipeCheck p) = (pipeCheck p))) || !((p.closed && decide ((p.b).length = 0)) == (p.closed && decide ((p.b.length : Int) = 0)))))), (87, .bool ((decide (room < 0) || decide (1000 < room)))), (104, .bool ((!decide ((pipeNew room).2 = 0) || !(decide (((pipeNew room).1) = ⟨[], room, false, false⟩))))), (106, .bool (!decide ((pipeCheck p) = 0)))]) ?KK223 (fun K223 => ?BK223)
          case BK223 =>
            refine w_bool (t := 120) rfl (fun hc2220 => ?_) (fun hc2220 => ?_)
            · have hc222 := hc2220
              try simp only [decide_eq_true_eq, decide_eq_false_iff_not, Bool.and_eq_true, Bool.and_eq_false_imp, Bool.or_eq_true, Bool.or_eq_false_iff, Bool.not_eq_true', Bool.not_eq_false', Bool.not_not, Int.not_lt, Int.not_le] at hc222
              refine s_on rfl rfl rfl <|
                s_v (r_move rfl) rfl rfl rfl <|
                s_on rfl rfl rfl <|
                s_v (r_move rfl) rfl rfl rfl <|
                s_on rfl rfl rfl <|
                s_v (r_ii rfl rfl b_eql) rfl rfl rfl <|
                s_v (r_pickT rfl rfl rfl) rfl rfl rfl <| ?_
              refine w_eq (t := 124) (v := .bool ((((decide ((pipeWrite p bs).2.2 = (pipeCheck p)) && decide ((pipeRead p most).2.2 = (pipeCheck p))) && decide ((pipeClose p).2 = (pipeCheck p))) && decide ((pipeShut p).2 = (pipeCheck p))))) rfl (by rw [hc2220]; first | simp only [Bool.true_and, Bool.false_and, Bool.true_or, Bool.false_or] | rfl) ?_
              exact w_only [124, 0, 1, 2, 3, 4, 8, 9, 10, 11, 12, 13, 14, 15, 16, 17, 18, 19, 20, 21, 22, 81, 87, 104, 106] rfl K223
            · have hc222 := hc2220
              try simp only [decide_eq_true_eq, decide_eq_false_iff_not, Bool.and_eq_true, Bool.and_eq_false_imp, Bool.or_eq_true, Bool.or_eq_false_iff, Bool.not_eq_true', Bool.not_eq_false', Bool.not_not, Int.not_lt, Int.not_le] at hc222
              refine s_off rfl rfl rfl rfl rfl rfl <|
                s_off rfl rfl rfl rfl rfl rfl <|
                s_off rfl rfl rfl rfl rfl rfl <|
                s_v (r_pickF rfl rfl rfl) rfl rfl rfl <| ?_
              refine w_eq (t := 124) (v := .bool ((((decide ((pipeWrite p bs).2.2 = (pipeCheck p)) && decide ((pipeRead p most).2.2 = (pipeCheck p))) && decide ((pipeClose p).2 = (pipeCheck p))) && decide ((pipeShut p).2 = (pipeCheck p))))) rfl (by rw [hc2220]; first | simp only [Bool.true_and, Bool.false_and, Bool.true_or, Bool.false_or] | rfl) ?_
              exact w_only [124, 0, 1, 2, 3, 4, 8, 9, 10, 11, 12, 13, 14, 15, 16, 17, 18, 19, 20, 21, 22, 81, 87, 104, 106] rfl K223
          refine s_v (r_move rfl) rfl rfl rfl <| ?_
          refine j6 (L' := [(131, .bool (((((decide ((pipeWrite p bs).2.2 = (pipeCheck p)) && decide ((pipeRead p most).2.2 = (pipeCheck p))) && decide ((pipeClose p).2 = (pipeCheck p))) && decide ((pipeShut p).2 = (pipeCheck p))) && decide (((pipeWrite p bs).2.1 + (((pipeRead p most).2.1).length : Int)) = 0)))), (0, .agg #[.slice oa p.b.length cap, .int .i64 p.room, .bool p.closed, .bool p.shut]), (1, .slice ob bs.length cbp), (2, .int .i64 most), (3, .int .i64 room), (4, .pointer (some ⟨b2, 0, none⟩)), (8, .bool false), (9, .pointer (some ⟨b7, 0, none⟩)), (10, .int .i64 ((pipeNew room).2)), (11, .pointer (some ⟨b14, 0, none⟩)), (12, .int .i64 ((pipeWrite p bs).2.1)), (13, .int .i64 ((pipeWrite p bs).2.2)), (14, .pointer (some ⟨b21, 0, none⟩)), (15, .slice ob18 (((pipeRead p most).2.1).length) cb18), (16, .int .i64 ((pipeRead p most).2.2)), (17, .pointer (some ⟨b28, 0, none⟩)), (18, .int .i64 ((pipeClose p).2)), (19, .pointer (some ⟨b35, 0, none⟩)), (20, .int .i64 ((pipeShut p).2)), (21, .pointer (some ⟨b40, 0, none⟩)), (22, .int .i64 (pipeCheck p)), (81, .bool (((!true || !decide ((pipeCheck p) = (pipeCheck p))) || !((p.closed && decide ((p.b).length = 0)) == (p.closed && decide ((p.b.length : Int) = 0)))))), (87, .bool ((decide (room < 0) || decide (1000 < room)))), (104, .bool ((!decide ((pipeNew room).2 = 0) || !(decide (((pipeNew room).1) = ⟨[], room, false, false⟩))))), (106, .bool (!decide ((pipeCheck p) = 0)))]) ?KK225 (fun K225 => ?BK225)
          case BK225 =>
            refine w_bool (t := 125) rfl (fun hc2240 => ?_) (fun hc2240 => ?_)
            · have hc224 := hc2240
              try simp only [decide_eq_true_eq, decide_eq_false_iff_not, Bool.and_eq_true, Bool.and_eq_false_imp, Bool.or_eq_true, Bool.or_eq_false_iff, Bool.not_eq_true', Bool.not_eq_false', Bool.not_not, Int.not_lt, Int.not_le] at hc224
              refine s_on rfl rfl rfl <|
                s_v (r_move rfl) rfl rfl rfl <|
                s_on rfl rfl rfl <|
                s_v (r_move rfl) rfl rfl rfl <|
                s_on rfl rfl rfl <|
                s_v (r_len rfl Try.underlying27) rfl rfl rfl <|
                s_on rfl rfl rfl <|
                s_v (r_ii rfl rfl (b_add (by have := @pipe_bad p bs most (by assumption); rw [this.1, this.2]; simp))) rfl rfl rfl <|
                s_on rfl rfl rfl <|
                s_v (r_ii rfl rfl b_eql) rfl rfl rfl <|
                s_v (r_pickT rfl rfl rfl) rfl rfl rfl <| ?_
              refine w_eq (t := 131) (v := .bool (((((decide ((pipeWrite p bs).2.2 = (pipeCheck p)) && decide ((pipeRead p most).2.2 = (pipeCheck p))) && decide ((pipeClose p).2 = (pipeCheck p))) && decide ((pipeShut p).2 = (pipeCheck p))) && decide (((pipeWrite p bs).2.1 + (((pipeRead p most).2.1).length : Int)) = 0)))) rfl (by rw [hc2240]; first | simp only [Bool.true_and, Bool.false_and, Bool.true_or, Bool.false_or] | rfl) ?_
              exact w_only [131, 0, 1, 2, 3, 4, 8, 9, 10, 11, 12, 13, 14, 15, 16, 17, 18, 19, 20, 21, 22, 81, 87, 104, 106] rfl K225
            · have hc224 := hc2240
              try simp only [decide_eq_true_eq, decide_eq_false_iff_not, Bool.and_eq_true, Bool.and_eq_false_imp, Bool.or_eq_true, Bool.or_eq_false_iff, Bool.not_eq_true', Bool.not_eq_false', Bool.not_not, Int.not_lt, Int.not_le] at hc224
              refine s_off rfl rfl rfl rfl rfl rfl <|
                s_off rfl rfl rfl rfl rfl rfl <|
                s_off rfl rfl rfl rfl rfl rfl <|
                s_off rfl rfl rfl rfl rfl rfl <|
                s_off rfl rfl rfl rfl rfl rfl <|
                s_v (r_pickF rfl rfl rfl) rfl rfl rfl <| ?_
              refine w_eq (t := 131) (v := .bool (((((decide ((pipeWrite p bs).2.2 = (pipeCheck p)) && decide ((pipeRead p most).2.2 = (pipeCheck p))) && decide ((pipeClose p).2 = (pipeCheck p))) && decide ((pipeShut p).2 = (pipeCheck p))) && decide (((pipeWrite p bs).2.1 + (((pipeRead p most).2.1).length : Int)) = 0)))) rfl (by rw [hc2240]; first | simp only [Bool.true_and, Bool.false_and, Bool.true_or, Bool.false_or] | rfl) ?_
              exact w_only [131, 0, 1, 2, 3, 4, 8, 9, 10, 11, 12, 13, 14, 15, 16, 17, 18, 19, 20, 21, 22, 81, 87, 104, 106] rfl K225
          refine s_v (r_move rfl) rfl rfl rfl <| ?_
          refine jw4 S215 (L' := [(136, .bool ((((((decide ((pipeWrite p bs).2.2 = (pipeCheck p)) && decide ((pipeRead p most).2.2 = (pipeCheck p))) && decide ((pipeClose p).2 = (pipeCheck p))) && decide ((pipeShut p).2 = (pipeCheck p))) && decide (((pipeWrite p bs).2.1 + (((pipeRead p most).2.1).length : Int)) = 0)) && decide ((pipeWrite p bs).1 = ⟨[], 0, false, false⟩)))), (0, .agg #[.slice oa p.b.length cap, .int .i64 p.room, .bool p.closed, .bool p.shut]), (1, .slice ob bs.length cbp), (2, .int .i64 most), (3, .int .i64 room), (4, .pointer (some ⟨b2, 0, none⟩)), (8, .bool false), (9, .pointer (some ⟨b7, 0, none⟩)), (10, .int .i64 ((pipeNew room).2)), (11, .pointer (some ⟨b14, 0, none⟩)), (12, .int .i64 ((pipeWrite p bs).2.1)), (13, .int .i64 ((pipeWrite p bs).2.2)), (14, .pointer (some ⟨b21, 0, none⟩)), (15, .slice ob18 (((pipeRead p most).2.1).length) cb18), (16, .int .i64 ((pipeRead p most).2.2)), (17, .pointer (some ⟨b28, 0, none⟩)), (18, .int .i64 ((pipeClose p).2)), (19, .pointer (some ⟨b35, 0, none⟩)), (20, .int .i64 ((pipeShut p).2)), (21, .pointer (some ⟨b40, 0, none⟩)), (22, .int .i64 (pipeCheck p)), (81, .bool (((!true || !decide ((pipeCheck p) = (pipeCheck p))) || !((p.closed && decide ((p.b).length = 0)) == (p.closed && decide ((p.b.length : Int) = 0)))))), (87, .bool ((decide (room < 0) || decide (1000 < room)))), (104, .bool ((!decide ((pipeNew room).2 = 0) || !(decide (((pipeNew room).1) = ⟨[], room, false, false⟩))))), (106, .bool (!decide ((pipeCheck p) = 0)))]) ?KK227 (fun K227 => ?BK227)
          case BK227 =>
            refine w_bool (t := 132) rfl (fun hc2260 => ?_) (fun hc2260 => ?_)
            · have hc226 := hc2260
              try simp only [decide_eq_true_eq, decide_eq_false_iff_not, Bool.and_eq_true, Bool.and_eq_false_imp, Bool.or_eq_true, Bool.or_eq_false_iff, Bool.not_eq_true', Bool.not_eq_false', Bool.not_not, Int.not_lt, Int.not_le] at hc226
              refine s_on rfl rfl rfl <|
                s_v (r_getk 4 S215 ty29 rfl rfl rfl rfl) rfl rfl rfl <|
                s_on rfl rfl rfl <|
                s_v (r_getk 0 S215 ty29 rfl rfl rfl rfl) rfl rfl rfl <|
                s_on rfl rfl rfl <|
                s_callV S215 rfl call21 (ref_SamePipe _ _ S215.mem (pipeWrite p bs).1 ⟨[], 0, false, false⟩ P11 SlA.none) rfl rfl fun w228 S229 =>
                s_v (r_pickT rfl rfl rfl) rfl rfl rfl <| ?_
              refine w_eq (t := 136) (v := .bool ((((((decide ((pipeWrite p bs).2.2 = (pipeCheck p)) && decide ((pipeRead p most).2.2 = (pipeCheck p))) && decide ((pipeClose p).2 = (pipeCheck p))) && decide ((pipeShut p).2 = (pipeCheck p))) && decide (((pipeWrite p bs).2.1 + (((pipeRead p most).2.1).length : Int)) = 0)) && decide ((pipeWrite p bs).1 = ⟨[], 0, false, false⟩)))) rfl (by rw [hc2260]; first | simp only [Bool.true_and, Bool.false_and, Bool.true_or, Bool.false_or] | rfl) ?_
              exact w_only [136, 0, 1, 2, 3, 4, 8, 9, 10, 11, 12, 13, 14, 15, 16, 17, 18, 19, 20, 21, 22, 81, 87, 104, 106] rfl (K227 _ S229)
            · have hc226 := hc2260
              try simp only [decide_eq_true_eq, decide_eq_false_iff_not, Bool.and_eq_true, Bool.and_eq_false_imp, Bool.or_eq_true, Bool.or_eq_false_iff, Bool.not_eq_true', Bool.not_eq_false', Bool.not_not, Int.not_lt, Int.not_le] at hc226
              refine s_off rfl rfl rfl rfl rfl rfl <|
                s_off rfl rfl rfl rfl rfl rfl <|
                s_off rfl rfl rfl rfl rfl rfl <|
                s_v (r_pickF rfl rfl rfl) rfl rfl rfl <| ?_
              refine w_eq (t := 136) (v := .bool ((((((decide ((pipeWrite p bs).2.2 = (pipeCheck p)) && decide ((pipeRead p most).2.2 = (pipeCheck p))) && decide ((pipeClose p).2 = (pipeCheck p))) && decide ((pipeShut p).2 = (pipeCheck p))) && decide (((pipeWrite p bs).2.1 + (((pipeRead p most).2.1).length : Int)) = 0)) && decide ((pipeWrite p bs).1 = ⟨[], 0, false, false⟩)))) rfl (by rw [hc2260]; first | simp only [Bool.true_and, Bool.false_and, Bool.true_or, Bool.false_or] | rfl) ?_
              exact w_only [136, 0, 1, 2, 3, 4, 8, 9, 10, 11, 12, 13, 14, 15, 16, 17, 18, 19, 20, 21, 22, 81, 87, 104, 106] rfl (K227 _ S215)
          intro w230 S231
          refine s_v (r_move rfl) rfl rfl rfl <| ?_
          refine jw4 S231 (L' := [(141, .bool (((((((decide ((pipeWrite p bs).2.2 = (pipeCheck p)) && decide ((pipeRead p most).2.2 = (pipeCheck p))) && decide ((pipeClose p).2 = (pipeCheck p))) && decide ((pipeShut p).2 = (pipeCheck p))) && decide (((pipeWrite p bs).2.1 + (((pipeRead p most).2.1).length : Int)) = 0)) && decide ((pipeWrite p bs).1 = ⟨[], 0, false, false⟩)) && decide ((pipeRead p most).1 = ⟨[], 0, false, false⟩)))), (0, .agg #[.slice oa p.b.length cap, .int .i64 p.room, .bool p.closed, .bool p.shut]), (1, .slice ob bs.length cbp), (2, .int .i64 most), (3, .int .i64 room), (4, .pointer (some ⟨b2, 0, none⟩)), (8, .bool false), (9, .pointer (some ⟨b7, 0, none⟩)), (10, .int .i64 ((pipeNew room).2)), (11, .pointer (some ⟨b14, 0, none⟩)), (12, .int .i64 ((pipeWrite p bs).2.1)), (13, .int .i64 ((pipeWrite p bs).2.2)), (14, .pointer (some ⟨b21, 0, none⟩)), (15, .slice ob18 (((pipeRead p most).2.1).length) cb18), (16, .int .i64 ((pipeRead p most).2.2)), (17, .pointer (some ⟨b28, 0, none⟩)), (18, .int .i64 ((pipeClose p).2)), (19, .pointer (some ⟨b35, 0, none⟩)), (20, .int .i64 ((pipeShut p).2)), (21, .pointer (some ⟨b40, 0, none⟩)), (22, .int .i64 (pipeCheck p)), (81, .bool (((!true || !decide ((pipeCheck p) = (pipeCheck p))) || !((p.closed && decide ((p.b).length = 0)) == (p.closed && decide ((p.b.length : Int) = 0)))))), (87, .bool ((decide (room < 0) || decide (1000 < room)))), (104, .bool ((!decide ((pipeNew room).2 = 0) || !(decide (((pipeNew room).1) = ⟨[], room, false, false⟩))))), (106, .bool (!decide ((pipeCheck p) = 0)))]) ?KK233 (fun K233 => ?BK233)
          case BK233 =>
            refine w_bool (t := 137) rfl (fun hc2320 => ?_) (fun hc2320 => ?_)
            · have hc232 := hc2320
              try simp only [decide_eq_true_eq, decide_eq_false_iff_not, Bool.and_eq_true, Bool.and_eq_false_imp, Bool.or_eq_true, Bool.or_eq_false_iff, Bool.not_eq_true', Bool.not_eq_false', Bool.not_not, Int.not_lt, Int.not_le] at hc232
              refine s_on rfl rfl rfl <|
                s_v (r_getk 3 S231 ty29 rfl rfl rfl rfl) rfl rfl rfl <|
                s_on rfl rfl rfl <|
                s_v (r_getk 0 S231 ty29 rfl rfl rfl rfl) rfl rfl rfl <|
                s_on rfl rfl rfl <|
                s_callV S231 rfl call21 (ref_SamePipe _ _ S231.mem (pipeRead p most).1 ⟨[], 0, false, false⟩ P18 SlA.none) rfl rfl fun w234 S235 =>
                s_v (r_pickT rfl rfl rfl) rfl rfl rfl <| ?_
              refine w_eq (t := 141) (v := .bool (((((((decide ((pipeWrite p bs).2.2 = (pipeCheck p)) && decide ((pipeRead p most).2.2 = (pipeCheck p))) && decide ((pipeClose p).2 = (pipeCheck p))) && decide ((pipeShut p).2 = (pipeCheck p))) && decide (((pipeWrite p bs).2.1 + (((pipeRead p most).2.1).length : Int)) = 0)) && decide ((pipeWrite p bs).1 = ⟨[], 0, false, false⟩)) && decide ((pipeRead p most).1 = ⟨[], 0, false, false⟩)))) rfl (by rw [hc2320]; first | simp only [Bool.true_and, Bool.false_and, Bool.true_or, Bool.false_or] | rfl) ?_
              exact w_only [141, 0, 1, 2, 3, 4, 8, 9, 10, 11, 12, 13, 14, 15, 16, 17, 18, 19, 20, 21, 22, 81, 87, 104, 106] rfl (K233 _ S235)
            · have hc232 := hc2320
              try simp only [decide_eq_true_eq, decide_eq_false_iff_not, Bool.and_eq_true, Bool.and_eq_false_imp, Bool.or_eq_true, Bool.or_eq_false_iff, Bool.not_eq_true', Bool.not_eq_false', Bool.not_not, Int.not_lt, Int.not_le] at hc232
              refine s_off rfl rfl rfl rfl rfl rfl <|
                s_off rfl rfl rfl rfl rfl rfl <|
                s_off rfl rfl rfl rfl rfl rfl <|
                s_v (r_pickF rfl rfl rfl) rfl rfl rfl <| ?_
              refine w_eq (t := 141) (v := .bool (((((((decide ((pipeWrite p bs).2.2 = (pipeCheck p)) && decide ((pipeRead p most).2.2 = (pipeCheck p))) && decide ((pipeClose p).2 = (pipeCheck p))) && decide ((pipeShut p).2 = (pipeCheck p))) && decide (((pipeWrite p bs).2.1 + (((pipeRead p most).2.1).length : Int)) = 0)) && decide ((pipeWrite p bs).1 = ⟨[], 0, false, false⟩)) && decide ((pipeRead p most).1 = ⟨[], 0, false, false⟩)))) rfl (by rw [hc2320]; first | simp only [Bool.true_and, Bool.false_and, Bool.true_or, Bool.false_or] | rfl) ?_
              exact w_only [141, 0, 1, 2, 3, 4, 8, 9, 10, 11, 12, 13, 14, 15, 16, 17, 18, 19, 20, 21, 22, 81, 87, 104, 106] rfl (K233 _ S231)
          intro w236 S237
          refine s_v (r_move rfl) rfl rfl rfl <| ?_
          refine jw4 S237 (L' := [(146, .bool ((((((((decide ((pipeWrite p bs).2.2 = (pipeCheck p)) && decide ((pipeRead p most).2.2 = (pipeCheck p))) && decide ((pipeClose p).2 = (pipeCheck p))) && decide ((pipeShut p).2 = (pipeCheck p))) && decide (((pipeWrite p bs).2.1 + (((pipeRead p most).2.1).length : Int)) = 0)) && decide ((pipeWrite p bs).1 = ⟨[], 0, false, false⟩)) && decide ((pipeRead p most).1 = ⟨[], 0, false, false⟩)) && decide ((pipeClose p).1 = ⟨[], 0, false, false⟩)))), (0, .agg #[.slice oa p.b.length cap, .int .i64 p.room, .bool p.closed, .bool p.shut]), (1, .slice ob bs.length cbp), (2, .int .i64 most), (3, .int .i64 room), (4, .pointer (some ⟨b2, 0, none⟩)), (8, .bool false), (9, .pointer (some ⟨b7, 0, none⟩)), (10, .int .i64 ((pipeNew room).2)), (11, .pointer (some ⟨b14, 0, none⟩)), (12, .int .i64 ((pipeWrite p bs).2.1)), (13, .int .i64 ((pipeWrite p bs).2.2)), (14, .pointer (some ⟨b21, 0, none⟩)), (15, .slice ob18 (((pipeRead p most).2.1).length) cb18), (16, .int .i64 ((pipeRead p most).2.2)), (17, .pointer (some ⟨b28, 0, none⟩)), (18, .int .i64 ((pipeClose p).2)), (19, .pointer (some ⟨b35, 0, none⟩)), (20, .int .i64 ((pipeShut p).2)), (21, .pointer (some ⟨b40, 0, none⟩)), (22, .int .i64 (pipeCheck p)), (81, .bool (((!true || !decide ((pipeCheck p) = (pipeCheck p))) || !((p.closed && decide ((p.b).length = 0)) == (p.closed && decide ((p.b.length : Int) = 0)))))), (87, .bool ((decide (room < 0) || decide (1000 < room)))), (104, .bool ((!decide ((pipeNew room).2 = 0) || !(decide (((pipeNew room).1) = ⟨[], room, false, false⟩))))), (106, .bool (!decide ((pipeCheck p) = 0)))]) ?KK239 (fun K239 => ?BK239)
          case BK239 =>
            refine w_bool (t := 142) rfl (fun hc2380 => ?_) (fun hc2380 => ?_)
            · have hc238 := hc2380
              try simp only [decide_eq_true_eq, decide_eq_false_iff_not, Bool.and_eq_true, Bool.and_eq_false_imp, Bool.or_eq_true, Bool.or_eq_false_iff, Bool.not_eq_true', Bool.not_eq_false', Bool.not_not, Int.not_lt, Int.not_le] at hc238
              refine s_on rfl rfl rfl <|
                s_v (r_getk 2 S237 ty29 rfl rfl rfl rfl) rfl rfl rfl <|
                s_on rfl rfl rfl <|
                s_v (r_getk 0 S237 ty29 rfl rfl rfl rfl) rfl rfl rfl <|
                s_on rfl rfl rfl <|
                s_callV S237 rfl call21 (ref_SamePipe _ _ S237.mem (pipeClose p).1 ⟨[], 0, false, false⟩ P25 SlA.none) rfl rfl fun w240 S241 =>
                s_v (r_pickT rfl rfl rfl) rfl rfl rfl <| ?_
              refine w_eq (t := 146) (v := .bool ((((((((decide ((pipeWrite p bs).2.2 = (pipeCheck p)) && decide ((pipeRead p most).2.2 = (pipeCheck p))) && decide ((pipeClose p).2 = (pipeCheck p))) && decide ((pipeShut p).2 = (pipeCheck p))) && decide (((pipeWrite p bs).2.1 + (((pipeRead p most).2.1).length : Int)) = 0)) && decide ((pipeWrite p bs).1 = ⟨[], 0, false, false⟩)) && decide ((pipeRead p most).1 = ⟨[], 0, false, false⟩)) && decide ((pipeClose p).1 = ⟨[], 0, false, false⟩)))) rfl (by rw [hc2380]; first | simp only [Bool.true_and, Bool.false_and, Bool.true_or, Bool.false_or] | rfl) ?_
              exact w_only [146, 0, 1, 2, 3, 4, 8, 9, 10, 11, 12, 13, 14, 15, 16, 17, 18, 19, 20, 21, 22, 81, 87, 104, 106] rfl (K239 _ S241)
            · have hc238 := hc2380
              try simp only [decide_eq_true_eq, decide_eq_false_iff_not, Bool.and_eq_true, Bool.and_eq_false_imp, Bool.or_eq_true, Bool.or_eq_false_iff, Bool.not_eq_true', Bool.not_eq_false', Bool.not_not, Int.not_lt, Int.not_le] at hc238
              refine s_off rfl rfl rfl rfl rfl rfl <|
                s_off rfl rfl rfl rfl rfl rfl <|
                s_off rfl rfl rfl rfl rfl rfl <|
                s_v (r_pickF rfl rfl rfl) rfl rfl rfl <| ?_
              refine w_eq (t := 146) (v := .bool ((((((((decide ((pipeWrite p bs).2.2 = (pipeCheck p)) && decide ((pipeRead p most).2.2 = (pipeCheck p))) && decide ((pipeClose p).2 = (pipeCheck p))) && decide ((pipeShut p).2 = (pipeCheck p))) && decide (((pipeWrite p bs).2.1 + (((pipeRead p most).2.1).length : Int)) = 0)) && decide ((pipeWrite p bs).1 = ⟨[], 0, false, false⟩)) && decide ((pipeRead p most).1 = ⟨[], 0, false, false⟩)) && decide ((pipeClose p).1 = ⟨[], 0, false, false⟩)))) rfl (by rw [hc2380]; first | simp only [Bool.true_and, Bool.false_and, Bool.true_or, Bool.false_or] | rfl) ?_
              exact w_only [146, 0, 1, 2, 3, 4, 8, 9, 10, 11, 12, 13, 14, 15, 16, 17, 18, 19, 20, 21, 22, 81, 87, 104, 106] rfl (K239 _ S237)
          intro w242 S243
          refine s_v (r_move rfl) rfl rfl rfl <| ?_
          refine jw4 S243 (L' := [(151, .bool (((((((((decide ((pipeWrite p bs).2.2 = (pipeCheck p)) && decide ((pipeRead p most).2.2 = (pipeCheck p))) && decide ((pipeClose p).2 = (pipeCheck p))) && decide ((pipeShut p).2 = (pipeCheck p))) && decide (((pipeWrite p bs).2.1 + (((pipeRead p most).2.1).length : Int)) = 0)) && decide ((pipeWrite p bs).1 = ⟨[], 0, false, false⟩)) && decide ((pipeRead p most).1 = ⟨[], 0, false, false⟩)) && decide ((pipeClose p).1 = ⟨[], 0, false, false⟩)) && decide ((pipeShut p).1 = ⟨[], 0, false, false⟩)))), (0, .agg #[.slice oa p.b.length cap, .int .i64 p.room, .bool p.closed, .bool p.shut]), (1, .slice ob bs.length cbp), (2, .int .i64 most), (3, .int .i64 room), (4, .pointer (some ⟨b2, 0, none⟩)), (8, .bool false), (9, .pointer (some ⟨b7, 0, none⟩)), (10, .int .i64 ((pipeNew room).2)), (11, .pointer (some ⟨b14, 0, none⟩)), (12, .int .i64 ((pipeWrite p bs).2.1)), (13, .int .i64 ((pipeWrite p bs).2.2)), (14, .pointer (some ⟨b21, 0, none⟩)), (15, .slice ob18 (((pipeRead p most).2.1).length) cb18), (16, .int .i64 ((pipeRead p most).2.2)), (17, .pointer (some ⟨b28, 0, none⟩)), (18, .int .i64 ((pipeClose p).2)), (19, .pointer (some ⟨b35, 0, none⟩)), (20, .int .i64 ((pipeShut p).2)), (21, .pointer (some ⟨b40, 0, none⟩)), (22, .int .i64 (pipeCheck p)), (81, .bool (((!true || !decide ((pipeCheck p) = (pipeCheck p))) || !((p.closed && decide ((p.b).length = 0)) == (p.closed && decide ((p.b.length : Int) = 0)))))), (87, .bool ((decide (room < 0) || decide (1000 < room)))), (104, .bool ((!decide ((pipeNew room).2 = 0) || !(decide (((pipeNew room).1) = ⟨[], room, false, false⟩))))), (106, .bool (!decide ((pipeCheck p) = 0)))]) ?KK245 (fun K245 => ?BK245)
          case BK245 =>
            refine w_bool (t := 147) rfl (fun hc2440 => ?_) (fun hc2440 => ?_)
            · have hc244 := hc2440
              try simp only [decide_eq_true_eq, decide_eq_false_iff_not, Bool.and_eq_true, Bool.and_eq_false_imp, Bool.or_eq_true, Bool.or_eq_false_iff, Bool.not_eq_true', Bool.not_eq_false', Bool.not_not, Int.not_lt, Int.not_le] at hc244
              refine s_on rfl rfl rfl <|
                s_v (r_getk 1 S243 ty29 rfl rfl rfl rfl) rfl rfl rfl <|
                s_on rfl rfl rfl <|
                s_v (r_getk 0 S243 ty29 rfl rfl rfl rfl) rfl rfl rfl <|
                s_on rfl rfl rfl <|
                s_callV S243 rfl call21 (ref_SamePipe _ _ S243.mem (pipeShut p).1 ⟨[], 0, false, false⟩ P32 SlA.none) rfl rfl fun w246 S247 =>
                s_v (r_pickT rfl rfl rfl) rfl rfl rfl <| ?_
              refine w_eq (t := 151) (v := .bool (((((((((decide ((pipeWrite p bs).2.2 = (pipeCheck p)) && decide ((pipeRead p most).2.2 = (pipeCheck p))) && decide ((pipeClose p).2 = (pipeCheck p))) && decide ((pipeShut p).2 = (pipeCheck p))) && decide (((pipeWrite p bs).2.1 + (((pipeRead p most).2.1).length : Int)) = 0)) && decide ((pipeWrite p bs).1 = ⟨[], 0, false, false⟩)) && decide ((pipeRead p most).1 = ⟨[], 0, false, false⟩)) && decide ((pipeClose p).1 = ⟨[], 0, false, false⟩)) && decide ((pipeShut p).1 = ⟨[], 0, false, false⟩)))) rfl (by rw [hc2440]; first | simp only [Bool.true_and, Bool.false_and, Bool.true_or, Bool.false_or] | rfl) ?_
              exact w_only [151, 0, 1, 2, 3, 4, 8, 9, 10, 11, 12, 13, 14, 15, 16, 17, 18, 19, 20, 21, 22, 81, 87, 104, 106] rfl (K245 _ S247)
            · have hc244 := hc2440
              try simp only [decide_eq_true_eq, decide_eq_false_iff_not, Bool.and_eq_true, Bool.and_eq_false_imp, Bool.or_eq_true, Bool.or_eq_false_iff, Bool.not_eq_true', Bool.not_eq_false', Bool.not_not, Int.not_lt, Int.not_le] at hc244
              refine s_off rfl rfl rfl rfl rfl rfl <|
                s_off rfl rfl rfl rfl rfl rfl <|
                s_off rfl rfl rfl rfl rfl rfl <|
                s_v (r_pickF rfl rfl rfl) rfl rfl rfl <| ?_
              refine w_eq (t := 151) (v := .bool (((((((((decide ((pipeWrite p bs).2.2 = (pipeCheck p)) && decide ((pipeRead p most).2.2 = (pipeCheck p))) && decide ((pipeClose p).2 = (pipeCheck p))) && decide ((pipeShut p).2 = (pipeCheck p))) && decide (((pipeWrite p bs).2.1 + (((pipeRead p most).2.1).length : Int)) = 0)) && decide ((pipeWrite p bs).1 = ⟨[], 0, false, false⟩)) && decide ((pipeRead p most).1 = ⟨[], 0, false, false⟩)) && decide ((pipeClose p).1 = ⟨[], 0, false, false⟩)) && decide ((pipeShut p).1 = ⟨[], 0, false, false⟩)))) rfl (by rw [hc2440]; first | simp only [Bool.true_and, Bool.false_and, Bool.true_or, Bool.false_or] | rfl) ?_
              exact w_only [151, 0, 1, 2, 3, 4, 8, 9, 10, 11, 12, 13, 14, 15, 16, 17, 18, 19, 20, 21, 22, 81, 87, 104, 106] rfl (K245 _ S243)
          intro w248 S249
          refine s_v (r_assign rfl) rfl rfl rfl <|
            s_end <|
            c_ret <|
            e_thenR <|
            f_retV S249 rfl (.tmp rfl .nil) ?_
          simp only [packV]; congr 1
          first | rfl | grind [pipeNew, pipeWrite, pipeRead, pipeClose, pipeShut, zPipe]
        · try simp only [decide_eq_true_eq, decide_eq_false_iff_not, Bool.and_eq_true, Bool.and_eq_false_imp, Bool.or_eq_true, Bool.or_eq_false_iff, Bool.not_eq_true', Bool.not_eq_false', Bool.not_not, Int.not_lt, Int.not_le] at hc217
          refine c_skip <|
            e_then <|
            c_region <|
            s_v (r_getk 6 S215 ty29 rfl rfl rfl rfl) rfl rfl rfl <|
            s_v (r_move rfl) rfl rfl rfl <|
            s_callM S215 rfl call22 (ref_Written _ _ S215.mem p F bs Fb (by omega)) rfl rfl fun w251 m251 u251 le251 S251 h251 => ?_
          replace F := F.up le251; replace Fb := Fb.up le251; replace P4 := P4.up le251; replace P11 := P11.up le251; replace P18 := P18.up le251; replace Q18 := Q18.up le251; replace P25 := P25.up le251; replace P32 := P32.up le251
          obtain ⟨_, rfl, oa250, ca250, rfl, P250⟩ := h251
          refine s_v (r_move rfl) rfl rfl rfl <|
            s_v (r_extract rfl rfl) rfl rfl rfl <|
            s_v (r_extract rfl rfl) rfl rfl rfl <|
            s_v (r_extract rfl rfl) rfl rfl rfl <|
            s_alloc (cs := #[.slice none 0 0, .int .i64 0, .bool false, .bool false]) S251 ty29 rfl rfl fun w252 b253 S254 =>
            s_setk (R' := ((b253, .cells #[.slice oa250 (((pipeWrite p bs).1.b).length) ca250, .int .i64 ((pipeWrite p bs).1.room), .bool ((pipeWrite p bs).1.closed), .bool ((pipeWrite p bs).1.shut)] 29) :: ((b40, .cells #[.slice none 0 0, .int .i64 0, .bool false, .bool false] 29) :: ((b35, .cells #[.slice oa32 (((pipeShut p).1.b).length) ca32, .int .i64 ((pipeShut p).1.room), .bool ((pipeShut p).1.closed), .bool ((pipeShut p).1.shut)] 29) :: ((b28, .cells #[.slice oa25 (((pipeClose p).1.b).length) ca25, .int .i64 ((pipeClose p).1.room), .bool ((pipeClose p).1.closed), .bool ((pipeClose p).1.shut)] 29) :: ((b21, .cells #[.slice oa18 (((pipeRead p most).1.b).length) ca18, .int .i64 ((pipeRead p most).1.room), .bool ((pipeRead p most).1.closed), .bool ((pipeRead p most).1.shut)] 29) :: ((b14, .cells #[.slice oa11 (((pipeWrite p bs).1.b).length) ca11, .int .i64 ((pipeWrite p bs).1.room), .bool ((pipeWrite p bs).1.closed), .bool ((pipeWrite p bs).1.shut)] 29) :: ((b7, .cells #[.slice oa4 ((((pipeNew room).1).b).length) ca4, .int .i64 (((pipeNew room).1).room), .bool (((pipeNew room).1).closed), .bool (((pipeNew room).1).shut)] 29) :: ((b2, .cells #[.slice oa p.b.length cap, .int .i64 p.room, .bool p.closed, .bool p.shut] 29) :: []))))))))) 0 S254 ty29 rfl rfl rfl (by simp [Value.oneCell', str]) rfl rfl rfl fun w255 S256 =>
            s_v (r_assign rfl) rfl rfl rfl <|
            s_v (r_assign rfl) rfl rfl rfl <|
            s_end <|
            c_seq <|
            c_region <|
            s_v (r_move rfl) rfl rfl rfl <|
            s_v (r_move rfl) rfl rfl rfl <|
            s_v (r_ii rfl rfl b_neq) rfl rfl rfl <|
            s_v (r_move rfl) rfl rfl rfl <| ?_
          refine j4 (L' := [(166, .bool ((!decide ((pipeWrite p bs).2.2 = (pipeWrite p bs).2.2) || !decide ((pipeWrite p bs).2.1 = (pipeWrite p bs).2.1)))), (0, .agg #[.slice oa p.b.length cap, .int .i64 p.room, .bool p.closed, .bool p.shut]), (1, .slice ob bs.length cbp), (2, .int .i64 most), (3, .int .i64 room), (4, .pointer (some ⟨b2, 0, none⟩)), (8, .bool false), (9, .pointer (some ⟨b7, 0, none⟩)), (10, .int .i64 ((pipeNew room).2)), (11, .pointer (some ⟨b14, 0, none⟩)), (12, .int .i64 ((pipeWrite p bs).2.1)), (13, .int .i64 ((pipeWrite p bs).2.2)), (14, .pointer (some ⟨b21, 0, none⟩)), (15, .slice ob18 (((pipeRead p most).2.1).length) cb18), (16, .int .i64 ((pipeRead p most).2.2)), (17, .pointer (some ⟨b28, 0, none⟩)), (18, .int .i64 ((pipeClose p).2)), (19, .pointer (some ⟨b35, 0, none⟩)), (20, .int .i64 ((pipeShut p).2)), (21, .pointer (some ⟨b40, 0, none⟩)), (22, .int .i64 (pipeCheck p)), (81, .bool (((!true || !decide ((pipeCheck p) = (pipeCheck p))) || !((p.closed && decide ((p.b).length = 0)) == (p.closed && decide ((p.b.length : Int) = 0)))))), (87, .bool ((decide (room < 0) || decide (1000 < room)))), (104, .bool ((!decide ((pipeNew room).2 = 0) || !(decide (((pipeNew room).1) = ⟨[], room, false, false⟩))))), (106, .bool (!decide ((pipeCheck p) = 0))), (23, .pointer (some ⟨b253, 0, none⟩)), (24, .int .i64 ((pipeWrite p bs).2.1)), (25, .int .i64 ((pipeWrite p bs).2.2))]) ?KK258 (fun K258 => ?BK258)
          case BK258 =>
            refine w_bool (t := 162) rfl (fun hc2570 => ?_) (fun hc2570 => ?_)
            · have hc257 := hc2570
              try simp only [decide_eq_true_eq, decide_eq_false_iff_not, Bool.and_eq_true, Bool.and_eq_false_imp, Bool.or_eq_true, Bool.or_eq_false_iff, Bool.not_eq_true', Bool.not_eq_false', Bool.not_not, Int.not_lt, Int.not_le] at hc257
              refine s_off rfl rfl rfl rfl rfl rfl <|
                s_off rfl rfl rfl rfl rfl rfl <|
                s_off rfl rfl rfl rfl rfl rfl <|
                s_v (r_pickT rfl rfl rfl) rfl rfl rfl <| ?_
              refine w_eq (t := 166) (v := .bool ((!decide ((pipeWrite p bs).2.2 = (pipeWrite p bs).2.2) || !decide ((pipeWrite p bs).2.1 = (pipeWrite p bs).2.1)))) rfl (by rw [hc2570]; first | simp only [Bool.true_and, Bool.false_and, Bool.true_or, Bool.false_or] | rfl) ?_
              exact w_only [166, 0, 1, 2, 3, 4, 8, 9, 10, 11, 12, 13, 14, 15, 16, 17, 18, 19, 20, 21, 22, 81, 87, 104, 106, 23, 24, 25] rfl K258
            · have hc257 := hc2570
              try simp only [decide_eq_true_eq, decide_eq_false_iff_not, Bool.and_eq_true, Bool.and_eq_false_imp, Bool.or_eq_true, Bool.or_eq_false_iff, Bool.not_eq_true', Bool.not_eq_false', Bool.not_not, Int.not_lt, Int.not_le] at hc257
              refine s_on rfl rfl rfl <|
                s_v (r_move rfl) rfl rfl rfl <|
                s_on rfl rfl rfl <|
                s_v (r_move rfl) rfl rfl rfl <|
                s_on rfl rfl rfl <|
                s_v (r_ii rfl rfl b_neq) rfl rfl rfl <|
                s_v (r_pickF rfl rfl rfl) rfl rfl rfl <| ?_
              refine w_eq (t := 166) (v := .bool ((!decide ((pipeWrite p bs).2.2 = (pipeWrite p bs).2.2) || !decide ((pipeWrite p bs).2.1 = (pipeWrite p bs).2.1)))) rfl (by rw [hc2570]; first | simp only [Bool.true_and, Bool.false_and, Bool.true_or, Bool.false_or] | rfl) ?_
              exact w_only [166, 0, 1, 2, 3, 4, 8, 9, 10, 11, 12, 13, 14, 15, 16, 17, 18, 19, 20, 21, 22, 81, 87, 104, 106, 23, 24, 25] rfl K258
          refine s_v (r_move rfl) rfl rfl rfl <| ?_
          refine jw5 S256 (L' := [(172, .bool (((!decide ((pipeWrite p bs).2.2 = (pipeWrite p bs).2.2) || !decide ((pipeWrite p bs).2.1 = (pipeWrite p bs).2.1)) || !(decide ((pipeWrite p bs).1 = (pipeWrite p bs).1))))), (0, .agg #[.slice oa p.b.length cap, .int .i64 p.room, .bool p.closed, .bool p.shut]), (1, .slice ob bs.length cbp), (2, .int .i64 most), (3, .int .i64 room), (4, .pointer (some ⟨b2, 0, none⟩)), (8, .bool false), (9, .pointer (some ⟨b7, 0, none⟩)), (10, .int .i64 ((pipeNew room).2)), (11, .pointer (some ⟨b14, 0, none⟩)), (12, .int .i64 ((pipeWrite p bs).2.1)), (13, .int .i64 ((pipeWrite p bs).2.2)), (14, .pointer (some ⟨b21, 0, none⟩)), (15, .slice ob18 (((pipeRead p most).2.1).length) cb18), (16, .int .i64 ((pipeRead p most).2.2)), (17, .pointer (some ⟨b28, 0, none⟩)), (18, .int .i64 ((pipeClose p).2)), (19, .pointer (some ⟨b35, 0, none⟩)), (20, .int .i64 ((pipeShut p).2)), (21, .pointer (some ⟨b40, 0, none⟩)), (22, .int .i64 (pipeCheck p)), (81, .bool (((!true || !decide ((pipeCheck p) = (pipeCheck p))) || !((p.closed && decide ((p.b).length = 0)) == (p.closed && decide ((p.b.length : Int) = 0)))))), (87, .bool ((decide (room < 0) || decide (1000 < room)))), (104, .bool ((!decide ((pipeNew room).2 = 0) || !(decide (((pipeNew room).1) = ⟨[], room, false, false⟩))))), (106, .bool (!decide ((pipeCheck p) = 0))), (23, .pointer (some ⟨b253, 0, none⟩)), (24, .int .i64 ((pipeWrite p bs).2.1)), (25, .int .i64 ((pipeWrite p bs).2.2))]) ?KK260 (fun K260 => ?BK260)
          case BK260 =>
            refine w_bool (t := 167) rfl (fun hc2590 => ?_) (fun hc2590 => ?_)
            · have hc259 := hc2590
              try simp only [decide_eq_true_eq, decide_eq_false_iff_not, Bool.and_eq_true, Bool.and_eq_false_imp, Bool.or_eq_true, Bool.or_eq_false_iff, Bool.not_eq_true', Bool.not_eq_false', Bool.not_not, Int.not_lt, Int.not_le] at hc259
              refine s_off rfl rfl rfl rfl rfl rfl <|
                s_off rfl rfl rfl rfl rfl rfl <|
                s_off rfl rfl rfl rfl rfl rfl <|
                s_off rfl rfl rfl rfl rfl rfl <|
                s_v (r_pickT rfl rfl rfl) rfl rfl rfl <| ?_
              refine w_eq (t := 172) (v := .bool (((!decide ((pipeWrite p bs).2.2 = (pipeWrite p bs).2.2) || !decide ((pipeWrite p bs).2.1 = (pipeWrite p bs).2.1)) || !(decide ((pipeWrite p bs).1 = (pipeWrite p bs).1))))) rfl (by rw [hc2590]; first | simp only [Bool.true_and, Bool.false_and, Bool.true_or, Bool.false_or] | rfl) ?_
              exact w_only [172, 0, 1, 2, 3, 4, 8, 9, 10, 11, 12, 13, 14, 15, 16, 17, 18, 19, 20, 21, 22, 81, 87, 104, 106, 23, 24, 25] rfl (K260 _ S256)
            · have hc259 := hc2590
              try simp only [decide_eq_true_eq, decide_eq_false_iff_not, Bool.and_eq_true, Bool.and_eq_false_imp, Bool.or_eq_true, Bool.or_eq_false_iff, Bool.not_eq_true', Bool.not_eq_false', Bool.not_not, Int.not_lt, Int.not_le] at hc259
              refine s_on rfl rfl rfl <|
                s_v (r_getk 5 S256 ty29 rfl rfl rfl rfl) rfl rfl rfl <|
                s_on rfl rfl rfl <|
                s_v (r_getk 0 S256 ty29 rfl rfl rfl rfl) rfl rfl rfl <|
                s_on rfl rfl rfl <|
                s_callV S256 rfl call21 (ref_SamePipe _ _ S256.mem (pipeWrite p bs).1 (pipeWrite p bs).1 P11 P250) rfl rfl fun w261 S262 =>
                s_on rfl rfl rfl <|
                s_v (r_not rfl) rfl rfl rfl <|
                s_v (r_pickF rfl rfl rfl) rfl rfl rfl <| ?_
              refine w_eq (t := 172) (v := .bool (((!decide ((pipeWrite p bs).2.2 = (pipeWrite p bs).2.2) || !decide ((pipeWrite p bs).2.1 = (pipeWrite p bs).2.1)) || !(decide ((pipeWrite p bs).1 = (pipeWrite p bs).1))))) rfl (by rw [hc2590]; first | simp only [Bool.true_and, Bool.false_and, Bool.true_or, Bool.false_or] | rfl) ?_
              exact w_only [172, 0, 1, 2, 3, 4, 8, 9, 10, 11, 12, 13, 14, 15, 16, 17, 18, 19, 20, 21, 22, 81, 87, 104, 106, 23, 24, 25] rfl (K260 _ S262)
          intro w263 S264
          refine s_end <|
            c_if rfl (fun hc265 => ?_) (fun hc265 => ?_)
          · try simp only [decide_eq_true_eq, decide_eq_false_iff_not, Bool.and_eq_true, Bool.and_eq_false_imp, Bool.or_eq_true, Bool.or_eq_false_iff, Bool.not_eq_true', Bool.not_eq_false', Bool.not_not, Int.not_lt, Int.not_le] at hc265
            refine c_region <|
              s_v (r_assign rfl) rfl rfl rfl <|
              s_end <|
              c_ret <|
              e_thenR <|
              f_retV S264 rfl (.tmp rfl .nil) ?_
            simp only [packV]; congr 1
            first | rfl | grind [pipeNew, pipeWrite, pipeRead, pipeClose, pipeShut, zPipe]
          · try simp only [decide_eq_true_eq, decide_eq_false_iff_not, Bool.and_eq_true, Bool.and_eq_false_imp, Bool.or_eq_true, Bool.or_eq_false_iff, Bool.not_eq_true', Bool.not_eq_false', Bool.not_not, Int.not_lt, Int.not_le] at hc265
            refine c_skip <|
              e_then <|
              c_seq <|
              c_region <|
              s_v (r_move rfl) rfl rfl rfl <|
              s_v (r_ii rfl rfl b_lss) rfl rfl rfl <|
              s_v (r_move rfl) rfl rfl rfl <| ?_
            refine j3 (L' := [(178, .bool ((decide (most < 0) || decide (4000 < most)))), (0, .agg #[.slice oa p.b.length cap, .int .i64 p.room, .bool p.closed, .bool p.shut]), (1, .slice ob bs.length cbp), (2, .int .i64 most), (3, .int .i64 room), (4, .pointer (some ⟨b2, 0, none⟩)), (8, .bool false), (9, .pointer (some ⟨b7, 0, none⟩)), (10, .int .i64 ((pipeNew room).2)), (11, .pointer (some ⟨b14, 0, none⟩)), (12, .int .i64 ((pipeWrite p bs).2.1)), (13, .int .i64 ((pipeWrite p bs).2.2)), (14, .pointer (some ⟨b21, 0, none⟩)), (15, .slice ob18 (((pipeRead p most).2.1).length) cb18), (16, .int .i64 ((pipeRead p most).2.2)), (17, .pointer (some ⟨b28, 0, none⟩)), (18, .int .i64 ((pipeClose p).2)), (19, .pointer (some ⟨b35, 0, none⟩)), (20, .int .i64 ((pipeShut p).2)), (21, .pointer (some ⟨b40, 0, none⟩)), (22, .int .i64 (pipeCheck p)), (81, .bool (((!true || !decide ((pipeCheck p) = (pipeCheck p))) || !((p.closed && decide ((p.b).length = 0)) == (p.closed && decide ((p.b.length : Int) = 0)))))), (87, .bool ((decide (room < 0) || decide (1000 < room)))), (104, .bool ((!decide ((pipeNew room).2 = 0) || !(decide (((pipeNew room).1) = ⟨[], room, false, false⟩))))), (106, .bool (!decide ((pipeCheck p) = 0))), (23, .pointer (some ⟨b253, 0, none⟩)), (24, .int .i64 ((pipeWrite p bs).2.1)), (25, .int .i64 ((pipeWrite p bs).2.2)), (172, .bool (((!decide ((pipeWrite p bs).2.2 = (pipeWrite p bs).2.2) || !decide ((pipeWrite p bs).2.1 = (pipeWrite p bs).2.1)) || !(decide ((pipeWrite p bs).1 = (pipeWrite p bs).1)))))]) ?KK267 (fun K267 => ?BK267)
            case BK267 =>
              refine w_bool (t := 175) rfl (fun hc2660 => ?_) (fun hc2660 => ?_)
              · have hc266 := hc2660
                try simp only [decide_eq_true_eq, decide_eq_false_iff_not, Bool.and_eq_true, Bool.and_eq_false_imp, Bool.or_eq_true, Bool.or_eq_false_iff, Bool.not_eq_true', Bool.not_eq_false', Bool.not_not, Int.not_lt, Int.not_le] at hc266
                refine s_off rfl rfl rfl rfl rfl rfl <|
                  s_off rfl rfl rfl rfl rfl rfl <|
                  s_v (r_pickT rfl rfl rfl) rfl rfl rfl <| ?_
                refine w_eq (t := 178) (v := .bool ((decide (most < 0) || decide (4000 < most)))) rfl (by rw [hc2660]; first | simp only [Bool.true_and, Bool.false_and, Bool.true_or, Bool.false_or] | rfl) ?_
                exact w_only [178, 0, 1, 2, 3, 4, 8, 9, 10, 11, 12, 13, 14, 15, 16, 17, 18, 19, 20, 21, 22, 81, 87, 104, 106, 23, 24, 25, 172] rfl K267
              · have hc266 := hc2660
                try simp only [decide_eq_true_eq, decide_eq_false_iff_not, Bool.and_eq_true, Bool.and_eq_false_imp, Bool.or_eq_true, Bool.or_eq_false_iff, Bool.not_eq_true', Bool.not_eq_false', Bool.not_not, Int.not_lt, Int.not_le] at hc266
                refine s_on rfl rfl rfl <|
                  s_v (r_move rfl) rfl rfl rfl <|
                  s_on rfl rfl rfl <|
                  s_v (r_ii rfl rfl b_gtr) rfl rfl rfl <|
                  s_v (r_pickF rfl rfl rfl) rfl rfl rfl <| ?_
                refine w_eq (t := 178) (v := .bool ((decide (most < 0) || decide (4000 < most)))) rfl (by rw [hc2660]; first | simp only [Bool.true_and, Bool.false_and, Bool.true_or, Bool.false_or] | rfl) ?_
                exact w_only [178, 0, 1, 2, 3, 4, 8, 9, 10, 11, 12, 13, 14, 15, 16, 17, 18, 19, 20, 21, 22, 81, 87, 104, 106, 23, 24, 25, 172] rfl K267
            refine s_end <|
              c_if rfl (fun hc268 => ?_) (fun hc268 => ?_)
            · try simp only [decide_eq_true_eq, decide_eq_false_iff_not, Bool.and_eq_true, Bool.and_eq_false_imp, Bool.or_eq_true, Bool.or_eq_false_iff, Bool.not_eq_true', Bool.not_eq_false', Bool.not_not, Int.not_lt, Int.not_le] at hc268
              refine c_region <|
                s_v (r_move rfl) rfl rfl rfl <|
                s_v (r_ii rfl rfl b_neq) rfl rfl rfl <|
                s_v (r_move rfl) rfl rfl rfl <| ?_
              refine j4 (L' := [(185, .bool ((!decide ((pipeRead p most).2.2 = 3) || !decide ((((pipeRead p most).2.1).length : Int) = 0)))), (0, .agg #[.slice oa p.b.length cap, .int .i64 p.room, .bool p.closed, .bool p.shut]), (1, .slice ob bs.length cbp), (2, .int .i64 most), (3, .int .i64 room), (4, .pointer (some ⟨b2, 0, none⟩)), (8, .bool false), (9, .pointer (some ⟨b7, 0, none⟩)), (10, .int .i64 ((pipeNew room).2)), (11, .pointer (some ⟨b14, 0, none⟩)), (12, .int .i64 ((pipeWrite p bs).2.1)), (13, .int .i64 ((pipeWrite p bs).2.2)), (14, .pointer (some ⟨b21, 0, none⟩)), (15, .slice ob18 (((pipeRead p most).2.1).length) cb18), (16, .int .i64 ((pipeRead p most).2.2)), (17, .pointer (some ⟨b28, 0, none⟩)), (18, .int .i64 ((pipeClose p).2)), (19, .pointer (some ⟨b35, 0, none⟩)), (20, .int .i64 ((pipeShut p).2)), (21, .pointer (some ⟨b40, 0, none⟩)), (22, .int .i64 (pipeCheck p)), (81, .bool (((!true || !decide ((pipeCheck p) = (pipeCheck p))) || !((p.closed && decide ((p.b).length = 0)) == (p.closed && decide ((p.b.length : Int) = 0)))))), (87, .bool ((decide (room < 0) || decide (1000 < room)))), (104, .bool ((!decide ((pipeNew room).2 = 0) || !(decide (((pipeNew room).1) = ⟨[], room, false, false⟩))))), (106, .bool (!decide ((pipeCheck p) = 0))), (23, .pointer (some ⟨b253, 0, none⟩)), (24, .int .i64 ((pipeWrite p bs).2.1)), (25, .int .i64 ((pipeWrite p bs).2.2)), (172, .bool (((!decide ((pipeWrite p bs).2.2 = (pipeWrite p bs).2.2) || !decide ((pipeWrite p bs).2.1 = (pipeWrite p bs).2.1)) || !(decide ((pipeWrite p bs).1 = (pipeWrite p bs).1))))), (178, .bool ((decide (most < 0) || decide (4000 < most))))]) ?KK270 (fun K270 => ?BK270)
              case BK270 =>
                refine w_bool (t := 181) rfl (fun hc2690 => ?_) (fun hc2690 => ?_)
                · have hc269 := hc2690
                  try simp only [decide_eq_true_eq, decide_eq_false_iff_not, Bool.and_eq_true, Bool.and_eq_false_imp, Bool.or_eq_true, Bool.or_eq_false_iff, Bool.not_eq_true', Bool.not_eq_false', Bool.not_not, Int.not_lt, Int.not_le] at hc269
                  refine s_off rfl rfl rfl rfl rfl rfl <|
                    s_off rfl rfl rfl rfl rfl rfl <|
                    s_off rfl rfl rfl rfl rfl rfl <|
                    s_v (r_pickT rfl rfl rfl) rfl rfl rfl <| ?_
                  refine w_eq (t := 185) (v := .bool ((!decide ((pipeRead p most).2.2 = 3) || !decide ((((pipeRead p most).2.1).length : Int) = 0)))) rfl (by rw [hc2690]; first | simp only [Bool.true_and, Bool.false_and, Bool.true_or, Bool.false_or] | rfl) ?_
                  exact w_only [185, 0, 1, 2, 3, 4, 8, 9, 10, 11, 12, 13, 14, 15, 16, 17, 18, 19, 20, 21, 22, 81, 87, 104, 106, 23, 24, 25, 172, 178] rfl K270
                · have hc269 := hc2690
                  try simp only [decide_eq_true_eq, decide_eq_false_iff_not, Bool.and_eq_true, Bool.and_eq_false_imp, Bool.or_eq_true, Bool.or_eq_false_iff, Bool.not_eq_true', Bool.not_eq_false', Bool.not_not, Int.not_lt, Int.not_le] at hc269
                  refine s_on rfl rfl rfl <|
                    s_v (r_move rfl) rfl rfl rfl <|
                    s_on rfl rfl rfl <|
                    s_v (r_len rfl Try.underlying27) rfl rfl rfl <|
                    s_on rfl rfl rfl <|
                    s_v (r_ii rfl rfl b_neq) rfl rfl rfl <|
                    s_v (r_pickF rfl rfl rfl) rfl rfl rfl <| ?_
                  refine w_eq (t := 185) (v := .bool ((!decide ((pipeRead p most).2.2 = 3) || !decide ((((pipeRead p most).2.1).length : Int) = 0)))) rfl (by rw [hc2690]; first | simp only [Bool.true_and, Bool.false_and, Bool.true_or, Bool.false_or] | rfl) ?_
                  exact w_only [185, 0, 1, 2, 3, 4, 8, 9, 10, 11, 12, 13, 14, 15, 16, 17, 18, 19, 20, 21, 22, 81, 87, 104, 106, 23, 24, 25, 172, 178] rfl K270
              refine s_v (r_move rfl) rfl rfl rfl <| ?_
              refine jw5 S264 (L' := [(191, .bool (((!decide ((pipeRead p most).2.2 = 3) || !decide ((((pipeRead p most).2.1).length : Int) = 0)) || !(decide ((pipeRead p most).1 = ⟨[], 0, false, false⟩))))), (0, .agg #[.slice oa p.b.length cap, .int .i64 p.room, .bool p.closed, .bool p.shut]), (1, .slice ob bs.length cbp), (2, .int .i64 most), (3, .int .i64 room), (4, .pointer (some ⟨b2, 0, none⟩)), (8, .bool false), (9, .pointer (some ⟨b7, 0, none⟩)), (10, .int .i64 ((pipeNew room).2)), (11, .pointer (some ⟨b14, 0, none⟩)), (12, .int .i64 ((pipeWrite p bs).2.1)), (13, .int .i64 ((pipeWrite p bs).2.2)), (14, .pointer (some ⟨b21, 0, none⟩)), (15, .slice ob18 (((pipeRead p most).2.1).length) cb18), (16, .int .i64 ((pipeRead p most).2.2)), (17, .pointer (some ⟨b28, 0, none⟩)), (18, .int .i64 ((pipeClose p).2)), (19, .pointer (some ⟨b35, 0, none⟩)), (20, .int .i64 ((pipeShut p).2)), (21, .pointer (some ⟨b40, 0, none⟩)), (22, .int .i64 (pipeCheck p)), (81, .bool (((!true || !decide ((pipeCheck p) = (pipeCheck p))) || !((p.closed && decide ((p.b).length = 0)) == (p.closed && decide ((p.b.length : Int) = 0)))))), (87, .bool ((decide (room < 0) || decide (1000 < room)))), (104, .bool ((!decide ((pipeNew room).2 = 0) || !(decide (((pipeNew room).1) = ⟨[], room, false, false⟩))))), (106, .bool (!decide ((pipeCheck p) = 0))), (23, .pointer (some ⟨b253, 0, none⟩)), (24, .int .i64 ((pipeWrite p bs).2.1)), (25, .int .i64 ((pipeWrite p bs).2.2)), (172, .bool (((!decide ((pipeWrite p bs).2.2 = (pipeWrite p bs).2.2) || !decide ((pipeWrite p bs).2.1 = (pipeWrite p bs).2.1)) || !(decide ((pipeWrite p bs).1 = (pipeWrite p bs).1))))), (178, .bool ((decide (most < 0) || decide (4000 < most))))]) ?KK272 (fun K272 => ?BK272)
              case BK272 =>
                refine w_bool (t := 186) rfl (fun hc2710 => ?_) (fun hc2710 => ?_)
                · have hc271 := hc2710
                  try simp only [decide_eq_true_eq, decide_eq_false_iff_not, Bool.and_eq_true, Bool.and_eq_false_imp, Bool.or_eq_true, Bool.or_eq_false_iff, Bool.not_eq_true', Bool.not_eq_false', Bool.not_not, Int.not_lt, Int.not_le] at hc271
                  refine s_off rfl rfl rfl rfl rfl rfl <|
                    s_off rfl rfl rfl rfl rfl rfl <|
                    s_off rfl rfl rfl rfl rfl rfl <|
                    s_off rfl rfl rfl rfl rfl rfl <|
                    s_v (r_pickT rfl rfl rfl) rfl rfl rfl <| ?_
                  refine w_eq (t := 191) (v := .bool (((!decide ((pipeRead p most).2.2 = 3) || !decide ((((pipeRead p most).2.1).length : Int) = 0)) || !(decide ((pipeRead p most).1 = ⟨[], 0, false, false⟩))))) rfl (by rw [hc2710]; first | simp only [Bool.true_and, Bool.false_and, Bool.true_or, Bool.false_or] | rfl) ?_
                  exact w_only [191, 0, 1, 2, 3, 4, 8, 9, 10, 11, 12, 13, 14, 15, 16, 17, 18, 19, 20, 21, 22, 81, 87, 104, 106, 23, 24, 25, 172, 178] rfl (K272 _ S264)
                · have hc271 := hc2710
                  try simp only [decide_eq_true_eq, decide_eq_false_iff_not, Bool.and_eq_true, Bool.and_eq_false_imp, Bool.or_eq_true, Bool.or_eq_false_iff, Bool.not_eq_true', Bool.not_eq_false', Bool.not_not, Int.not_lt, Int.not_le] at hc271
                  refine s_on rfl rfl rfl <|
                    s_v (r_getk 4 S264 ty29 rfl rfl rfl rfl) rfl rfl rfl <|
                    s_on rfl rfl rfl <|
                    s_v (r_getk 1 S264 ty29 rfl rfl rfl rfl) rfl rfl rfl <|
                    s_on rfl rfl rfl <|
                    s_callV S264 rfl call21 (ref_SamePipe _ _ S264.mem (pipeRead p most).1 ⟨[], 0, false, false⟩ P18 SlA.none) rfl rfl fun w273 S274 =>
                    s_on rfl rfl rfl <|
                    s_v (r_not rfl) rfl rfl rfl <|
                    s_v (r_pickF rfl rfl rfl) rfl rfl rfl <| ?_
                  refine w_eq (t := 191) (v := .bool (((!decide ((pipeRead p most).2.2 = 3) || !decide ((((pipeRead p most).2.1).length : Int) = 0)) || !(decide ((pipeRead p most).1 = ⟨[], 0, false, false⟩))))) rfl (by rw [hc2710]; first | simp only [Bool.true_and, Bool.false_and, Bool.true_or, Bool.false_or] | rfl) ?_
                  exact w_only [191, 0, 1, 2, 3, 4, 8, 9, 10, 11, 12, 13, 14, 15, 16, 17, 18, 19, 20, 21, 22, 81, 87, 104, 106, 23, 24, 25, 172, 178] rfl (K272 _ S274)
              intro w275 S276
              refine s_end <|
                c_if rfl (fun hc277 => ?_) (fun hc277 => ?_)
              · try simp only [decide_eq_true_eq, decide_eq_false_iff_not, Bool.and_eq_true, Bool.and_eq_false_imp, Bool.or_eq_true, Bool.or_eq_false_iff, Bool.not_eq_true', Bool.not_eq_false', Bool.not_not, Int.not_lt, Int.not_le] at hc277
                refine c_region <|
                  s_v (r_assign rfl) rfl rfl rfl <|
                  s_end <|
                  c_ret <|
                  e_thenR <|
                  f_retV S276 rfl (.tmp rfl .nil) ?_
                simp only [packV]; congr 1
                first | rfl | grind [pipeNew, pipeWrite, pipeRead, pipeClose, pipeShut, zPipe]
              · try simp only [decide_eq_true_eq, decide_eq_false_iff_not, Bool.and_eq_true, Bool.and_eq_false_imp, Bool.or_eq_true, Bool.or_eq_false_iff, Bool.not_eq_true', Bool.not_eq_false', Bool.not_not, Int.not_lt, Int.not_le] at hc277
                refine c_skip <|
                  e_then <|
                  c_region <|
                  s_v (r_getk 7 S276 ty29 rfl rfl rfl rfl) rfl rfl rfl <|
                  s_alloc (cs := #[.slice none 0 0, .int .i64 0, .bool false, .bool false]) S276 ty29 rfl rfl fun w278 b279 S280 =>
                  s_setk (R' := ((b279, .cells #[.slice oa p.b.length cap, .int .i64 p.room, .bool p.closed, .bool p.shut] 29) :: ((b253, .cells #[.slice oa250 (((pipeWrite p bs).1.b).length) ca250, .int .i64 ((pipeWrite p bs).1.room), .bool ((pipeWrite p bs).1.closed), .bool ((pipeWrite p bs).1.shut)] 29) :: ((b40, .cells #[.slice none 0 0, .int .i64 0, .bool false, .bool false] 29) :: ((b35, .cells #[.slice oa32 (((pipeShut p).1.b).length) ca32, .int .i64 ((pipeShut p).1.room), .bool ((pipeShut p).1.closed), .bool ((pipeShut p).1.shut)] 29) :: ((b28, .cells #[.slice oa25 (((pipeClose p).1.b).length) ca25, .int .i64 ((pipeClose p).1.room), .bool ((pipeClose p).1.closed), .bool ((pipeClose p).1.shut)] 29) :: ((b21, .cells #[.slice oa18 (((pipeRead p most).1.b).length) ca18, .int .i64 ((pipeRead p most).1.room), .bool ((pipeRead p most).1.closed), .bool ((pipeRead p most).1.shut)] 29) :: ((b14, .cells #[.slice oa11 (((pipeWrite p bs).1.b).length) ca11, .int .i64 ((pipeWrite p bs).1.room), .bool ((pipeWrite p bs).1.closed), .bool ((pipeWrite p bs).1.shut)] 29) :: ((b7, .cells #[.slice oa4 ((((pipeNew room).1).b).length) ca4, .int .i64 (((pipeNew room).1).room), .bool (((pipeNew room).1).closed), .bool (((pipeNew room).1).shut)] 29) :: ((b2, .cells #[.slice oa p.b.length cap, .int .i64 p.room, .bool p.closed, .bool p.shut] 29) :: [])))))))))) 0 S280 ty29 rfl rfl rfl (by simp [Value.oneCell', str]) rfl rfl rfl fun w281 S282 =>
                  s_end <|
                  c_region <|
                  s_v (r_fieldAddr0 rfl fld29_0) rfl rfl rfl <|
                  s_set (R' := ((b279, .cells #[.slice none 0 0, .int .i64 p.room, .bool p.closed, .bool p.shut] 29) :: ((b253, .cells #[.slice oa250 (((pipeWrite p bs).1.b).length) ca250, .int .i64 ((pipeWrite p bs).1.room), .bool ((pipeWrite p bs).1.closed), .bool ((pipeWrite p bs).1.shut)] 29) :: ((b40, .cells #[.slice none 0 0, .int .i64 0, .bool false, .bool false] 29) :: ((b35, .cells #[.slice oa32 (((pipeShut p).1.b).length) ca32, .int .i64 ((pipeShut p).1.room), .bool ((pipeShut p).1.closed), .bool ((pipeShut p).1.shut)] 29) :: ((b28, .cells #[.slice oa25 (((pipeClose p).1.b).length) ca25, .int .i64 ((pipeClose p).1.room), .bool ((pipeClose p).1.closed), .bool ((pipeClose p).1.shut)] 29) :: ((b21, .cells #[.slice oa18 (((pipeRead p most).1.b).length) ca18, .int .i64 ((pipeRead p most).1.room), .bool ((pipeRead p most).1.closed), .bool ((pipeRead p most).1.shut)] 29) :: ((b14, .cells #[.slice oa11 (((pipeWrite p bs).1.b).length) ca11, .int .i64 ((pipeWrite p bs).1.room), .bool ((pipeWrite p bs).1.closed), .bool ((pipeWrite p bs).1.shut)] 29) :: ((b7, .cells #[.slice oa4 ((((pipeNew room).1).b).length) ca4, .int .i64 (((pipeNew room).1).room), .bool (((pipeNew room).1).closed), .bool (((pipeNew room).1).shut)] 29) :: ((b2, .cells #[.slice oa p.b.length cap, .int .i64 p.room, .bool p.closed, .bool p.shut] 29) :: [])))))))))) 0 S282 ty27 rfl rfl rfl rfl rfl rfl fun w283 S284 =>
                  s_v (r_fieldAddr0 rfl fld29_3) rfl rfl rfl <|
                  s_set (R' := ((b279, .cells #[.slice none 0 0, .int .i64 p.room, .bool p.closed, .bool true] 29) :: ((b253, .cells #[.slice oa250 (((pipeWrite p bs).1.b).length) ca250, .int .i64 ((pipeWrite p bs).1.room), .bool ((pipeWrite p bs).1.closed), .bool ((pipeWrite p bs).1.shut)] 29) :: ((b40, .cells #[.slice none 0 0, .int .i64 0, .bool false, .bool false] 29) :: ((b35, .cells #[.slice oa32 (((pipeShut p).1.b).length) ca32, .int .i64 ((pipeShut p).1.room), .bool ((pipeShut p).1.closed), .bool ((pipeShut p).1.shut)] 29) :: ((b28, .cells #[.slice oa25 (((pipeClose p).1.b).length) ca25, .int .i64 ((pipeClose p).1.room), .bool ((pipeClose p).1.closed), .bool ((pipeClose p).1.shut)] 29) :: ((b21, .cells #[.slice oa18 (((pipeRead p most).1.b).length) ca18, .int .i64 ((pipeRead p most).1.room), .bool ((pipeRead p most).1.closed), .bool ((pipeRead p most).1.shut)] 29) :: ((b14, .cells #[.slice oa11 (((pipeWrite p bs).1.b).length) ca11, .int .i64 ((pipeWrite p bs).1.room), .bool ((pipeWrite p bs).1.closed), .bool ((pipeWrite p bs).1.shut)] 29) :: ((b7, .cells #[.slice oa4 ((((pipeNew room).1).b).length) ca4, .int .i64 (((pipeNew room).1).room), .bool (((pipeNew room).1).closed), .bool (((pipeNew room).1).shut)] 29) :: ((b2, .cells #[.slice oa p.b.length cap, .int .i64 p.room, .bool p.closed, .bool p.shut] 29) :: [])))))))))) 0 S284 ty4 rfl rfl rfl rfl rfl rfl fun w285 S286 =>
                  s_end <|
                  c_seq <|
                  c_region <|
                  s_v (r_move rfl) rfl rfl rfl <|
                  s_v (r_ii rfl rfl b_neq) rfl rfl rfl <|
                  s_v (r_move rfl) rfl rfl rfl <| ?_
                refine jw5 S286 (L' := [(230, .bool ((!decide ((pipeShut p).2 = 0) || !(decide ((pipeShut p).1 = ⟨[], p.room, p.closed, true⟩))))), (0, .agg #[.slice oa p.b.length cap, .int .i64 p.room, .bool p.closed, .bool p.shut]), (1, .slice ob bs.length cbp), (2, .int .i64 most), (3, .int .i64 room), (4, .pointer (some ⟨b2, 0, none⟩)), (8, .bool false), (9, .pointer (some ⟨b7, 0, none⟩)), (10, .int .i64 ((pipeNew room).2)), (11, .pointer (some ⟨b14, 0, none⟩)), (12, .int .i64 ((pipeWrite p bs).2.1)), (13, .int .i64 ((pipeWrite p bs).2.2)), (14, .pointer (some ⟨b21, 0, none⟩)), (15, .slice ob18 (((pipeRead p most).2.1).length) cb18), (16, .int .i64 ((pipeRead p most).2.2)), (17, .pointer (some ⟨b28, 0, none⟩)), (18, .int .i64 ((pipeClose p).2)), (19, .pointer (some ⟨b35, 0, none⟩)), (20, .int .i64 ((pipeShut p).2)), (21, .pointer (some ⟨b40, 0, none⟩)), (22, .int .i64 (pipeCheck p)), (81, .bool (((!true || !decide ((pipeCheck p) = (pipeCheck p))) || !((p.closed && decide ((p.b).length = 0)) == (p.closed && decide ((p.b.length : Int) = 0)))))), (87, .bool ((decide (room < 0) || decide (1000 < room)))), (104, .bool ((!decide ((pipeNew room).2 = 0) || !(decide (((pipeNew room).1) = ⟨[], room, false, false⟩))))), (106, .bool (!decide ((pipeCheck p) = 0))), (23, .pointer (some ⟨b253, 0, none⟩)), (24, .int .i64 ((pipeWrite p bs).2.1)), (25, .int .i64 ((pipeWrite p bs).2.2)), (172, .bool (((!decide ((pipeWrite p bs).2.2 = (pipeWrite p bs).2.2) || !decide ((pipeWrite p bs).2.1 = (pipeWrite p bs).2.1)) || !(decide ((pipeWrite p bs).1 = (pipeWrite p bs).1))))), (178, .bool ((decide (most < 0) || decide (4000 < most)))), (191, .bool (((!decide ((pipeRead p most).2.2 = 3) || !decide ((((pipeRead p most).2.1).length : Int) = 0)) || !(decide ((pipeRead p most).1 = ⟨[], 0, false, false⟩))))), (28, .pointer (some ⟨b279, 0, none⟩))]) ?KK288 (fun K288 => ?BK288)
                case BK288 =>
                  refine w_bool (t := 225) rfl (fun hc2870 => ?_) (fun hc2870 => ?_)
                  · have hc287 := hc2870
                    try simp only [decide_eq_true_eq, decide_eq_false_iff_not, Bool.and_eq_true, Bool.and_eq_false_imp, Bool.or_eq_true, Bool.or_eq_false_iff, Bool.not_eq_true', Bool.not_eq_false', Bool.not_not, Int.not_lt, Int.not_le] at hc287
                    refine s_off rfl rfl rfl rfl rfl rfl <|
                      s_off rfl rfl rfl rfl rfl rfl <|
                      s_off rfl rfl rfl rfl rfl rfl <|
                      s_off rfl rfl rfl rfl rfl rfl <|
                      s_v (r_pickT rfl rfl rfl) rfl rfl rfl <| ?_
                    refine w_eq (t := 230) (v := .bool ((!decide ((pipeShut p).2 = 0) || !(decide ((pipeShut p).1 = ⟨[], p.room, p.closed, true⟩))))) rfl (by rw [hc2870]; first | simp only [Bool.true_and, Bool.false_and, Bool.true_or, Bool.false_or] | rfl) ?_
                    exact w_only [230, 0, 1, 2, 3, 4, 8, 9, 10, 11, 12, 13, 14, 15, 16, 17, 18, 19, 20, 21, 22, 81, 87, 104, 106, 23, 24, 25, 172, 178, 191, 28] rfl (K288 _ S286)
                  · have hc287 := hc2870
                    try simp only [decide_eq_true_eq, decide_eq_false_iff_not, Bool.and_eq_true, Bool.and_eq_false_imp, Bool.or_eq_true, Bool.or_eq_false_iff, Bool.not_eq_true', Bool.not_eq_false', Bool.not_not, Int.not_lt, Int.not_le] at hc287
                    refine s_on rfl rfl rfl <|
                      s_v (r_getk 3 S286 ty29 rfl rfl rfl rfl) rfl rfl rfl <|
                      s_on rfl rfl rfl <|
                      s_v (r_getk 0 S286 ty29 rfl rfl rfl rfl) rfl rfl rfl <|
                      s_on rfl rfl rfl <|
                      s_callV S286 rfl call21 (ref_SamePipe _ _ S286.mem (pipeShut p).1 ⟨[], p.room, p.closed, true⟩ P32 SlA.none) rfl rfl fun w289 S290 =>
                      s_on rfl rfl rfl <|
                      s_v (r_not rfl) rfl rfl rfl <|
                      s_v (r_pickF rfl rfl rfl) rfl rfl rfl <| ?_
                    refine w_eq (t := 230) (v := .bool ((!decide ((pipeShut p).2 = 0) || !(decide ((pipeShut p).1 = ⟨[], p.room, p.closed, true⟩))))) rfl (by rw [hc2870]; first | simp only [Bool.true_and, Bool.false_and, Bool.true_or, Bool.false_or] | rfl) ?_
                    exact w_only [230, 0, 1, 2, 3, 4, 8, 9, 10, 11, 12, 13, 14, 15, 16, 17, 18, 19, 20, 21, 22, 81, 87, 104, 106, 23, 24, 25, 172, 178, 191, 28] rfl (K288 _ S290)
                intro w291 S292
                refine s_end <|
                  c_if rfl (fun hc293 => ?_) (fun hc293 => ?_)
                · try simp only [decide_eq_true_eq, decide_eq_false_iff_not, Bool.and_eq_true, Bool.and_eq_false_imp, Bool.or_eq_true, Bool.or_eq_false_iff, Bool.not_eq_true', Bool.not_eq_false', Bool.not_not, Int.not_lt, Int.not_le] at hc293
                  refine c_region <|
                    s_v (r_assign rfl) rfl rfl rfl <|
                    s_end <|
                    c_ret <|
                    e_thenR <|
                    f_retV S292 rfl (.tmp rfl .nil) ?_
                  simp only [packV]; congr 1
                  first | rfl | grind [pipeNew, pipeWrite, pipeRead, pipeClose, pipeShut, zPipe]
                · try simp only [decide_eq_true_eq, decide_eq_false_iff_not, Bool.and_eq_true, Bool.and_eq_false_imp, Bool.or_eq_true, Bool.or_eq_false_iff, Bool.not_eq_true', Bool.not_eq_false', Bool.not_not, Int.not_lt, Int.not_le] at hc293
                  refine c_skip <|
                    e_then <|
                    c_seq <|
                    c_region <|
                    s_v (r_fieldAddr0 rfl fld29_2) rfl rfl rfl <|
                    s_v (r_get 8 S292 ty4 rfl rfl rfl) rfl rfl rfl <|
                    s_end <|
                    c_if rfl (fun hc294 => ?_) (fun hc294 => ?_)
                  · try simp only [decide_eq_true_eq, decide_eq_false_iff_not, Bool.and_eq_true, Bool.and_eq_false_imp, Bool.or_eq_true, Bool.or_eq_false_iff, Bool.not_eq_true', Bool.not_eq_false', Bool.not_not, Int.not_lt, Int.not_le] at hc294
                    refine c_region <|
                      s_v (r_move rfl) rfl rfl rfl <|
                      s_v (r_ii rfl rfl b_eql) rfl rfl rfl <|
                      s_v (r_move rfl) rfl rfl rfl <| ?_
                    refine jw4 S292 (L' := [(239, .bool ((decide ((pipeClose p).2 = 7) && decide ((pipeClose p).1 = ⟨[], 0, false, false⟩)))), (0, .agg #[.slice oa p.b.length cap, .int .i64 p.room, .bool p.closed, .bool p.shut]), (1, .slice ob bs.length cbp), (2, .int .i64 most), (3, .int .i64 room), (4, .pointer (some ⟨b2, 0, none⟩)), (8, .bool false), (9, .pointer (some ⟨b7, 0, none⟩)), (10, .int .i64 ((pipeNew room).2)), (11, .pointer (some ⟨b14, 0, none⟩)), (12, .int .i64 ((pipeWrite p bs).2.1)), (13, .int .i64 ((pipeWrite p bs).2.2)), (14, .pointer (some ⟨b21, 0, none⟩)), (15, .slice ob18 (((pipeRead p most).2.1).length) cb18), (16, .int .i64 ((pipeRead p most).2.2)), (17, .pointer (some ⟨b28, 0, none⟩)), (18, .int .i64 ((pipeClose p).2)), (19, .pointer (some ⟨b35, 0, none⟩)), (20, .int .i64 ((pipeShut p).2)), (21, .pointer (some ⟨b40, 0, none⟩)), (22, .int .i64 (pipeCheck p)), (81, .bool (((!true || !decide ((pipeCheck p) = (pipeCheck p))) || !((p.closed && decide ((p.b).length = 0)) == (p.closed && decide ((p.b.length : Int) = 0)))))), (87, .bool ((decide (room < 0) || decide (1000 < room)))), (104, .bool ((!decide ((pipeNew room).2 = 0) || !(decide (((pipeNew room).1) = ⟨[], room, false, false⟩))))), (106, .bool (!decide ((pipeCheck p) = 0))), (23, .pointer (some ⟨b253, 0, none⟩)), (24, .int .i64 ((pipeWrite p bs).2.1)), (25, .int .i64 ((pipeWrite p bs).2.2)), (172, .bool (((!decide ((pipeWrite p bs).2.2 = (pipeWrite p bs).2.2) || !decide ((pipeWrite p bs).2.1 = (pipeWrite p bs).2.1)) || !(decide ((pipeWrite p bs).1 = (pipeWrite p bs).1))))), (178, .bool ((decide (most < 0) || decide (4000 < most)))), (191, .bool (((!decide ((pipeRead p most).2.2 = 3) || !decide ((((pipeRead p most).2.1).length : Int) = 0)) || !(decide ((pipeRead p most).1 = ⟨[], 0, false, false⟩))))), (28, .pointer (some ⟨b279, 0, none⟩)), (230, .bool ((!decide ((pipeShut p).2 = 0) || !(decide ((pipeShut p).1 = ⟨[], p.room, p.closed, true⟩))))), (232, .bool p.closed)]) ?KK296 (fun K296 => ?BK296)
                    case BK296 =>
                      refine w_bool (t := 235) rfl (fun hc2950 => ?_) (fun hc2950 => ?_)
                      · have hc295 := hc2950
                        try simp only [decide_eq_true_eq, decide_eq_false_iff_not, Bool.and_eq_true, Bool.and_eq_false_imp, Bool.or_eq_true, Bool.or_eq_false_iff, Bool.not_eq_true', Bool.not_eq_false', Bool.not_not, Int.not_lt, Int.not_le] at hc295
                        refine s_on rfl rfl rfl <|
                          s_v (r_getk 4 S292 ty29 rfl rfl rfl rfl) rfl rfl rfl <|
                          s_on rfl rfl rfl <|
                          s_v (r_getk 2 S292 ty29 rfl rfl rfl rfl) rfl rfl rfl <|
                          s_on rfl rfl rfl <|
                          s_callV S292 rfl call21 (ref_SamePipe _ _ S292.mem (pipeClose p).1 ⟨[], 0, false, false⟩ P25 SlA.none) rfl rfl fun w297 S298 =>
                          s_v (r_pickT rfl rfl rfl) rfl rfl rfl <| ?_
                        refine w_eq (t := 239) (v := .bool ((decide ((pipeClose p).2 = 7) && decide ((pipeClose p).1 = ⟨[], 0, false, false⟩)))) rfl (by rw [hc2950]; first | simp only [Bool.true_and, Bool.false_and, Bool.true_or, Bool.false_or] | rfl) ?_
                        exact w_only [239, 0, 1, 2, 3, 4, 8, 9, 10, 11, 12, 13, 14, 15, 16, 17, 18, 19, 20, 21, 22, 81, 87, 104, 106, 23, 24, 25, 172, 178, 191, 28, 230, 232] rfl (K296 _ S298)
                      · have hc295 := hc2950
                        try simp only [decide_eq_true_eq, decide_eq_false_iff_not, Bool.and_eq_true, Bool.and_eq_false_imp, Bool.or_eq_true, Bool.or_eq_false_iff, Bool.not_eq_true', Bool.not_eq_false', Bool.not_not, Int.not_lt, Int.not_le] at hc295
                        refine s_off rfl rfl rfl rfl rfl rfl <|
                          s_off rfl rfl rfl rfl rfl rfl <|
                          s_off rfl rfl rfl rfl rfl rfl <|
                          s_v (r_pickF rfl rfl rfl) rfl rfl rfl <| ?_
                        refine w_eq (t := 239) (v := .bool ((decide ((pipeClose p).2 = 7) && decide ((pipeClose p).1 = ⟨[], 0, false, false⟩)))) rfl (by rw [hc2950]; first | simp only [Bool.true_and, Bool.false_and, Bool.true_or, Bool.false_or] | rfl) ?_
                        exact w_only [239, 0, 1, 2, 3, 4, 8, 9, 10, 11, 12, 13, 14, 15, 16, 17, 18, 19, 20, 21, 22, 81, 87, 104, 106, 23, 24, 25, 172, 178, 191, 28, 230, 232] rfl (K296 _ S292)
                    intro w299 S300
                    refine s_v (r_assign rfl) rfl rfl rfl <|
                      s_end <|
                      c_ret <|
                      e_thenR <|
                      f_retV S300 rfl (.tmp rfl .nil) ?_
                    simp only [packV]; congr 1
                    first | rfl | grind [pipeNew, pipeWrite, pipeRead, pipeClose, pipeShut, zPipe]
                  · try simp only [decide_eq_true_eq, decide_eq_false_iff_not, Bool.and_eq_true, Bool.and_eq_false_imp, Bool.or_eq_true, Bool.or_eq_false_iff, Bool.not_eq_true', Bool.not_eq_false', Bool.not_not, Int.not_lt, Int.not_le] at hc294
                    refine c_skip <|
                      e_then <|
                      c_region <|
                      s_v (r_fieldAddr0 rfl fld29_2) rfl rfl rfl <|
                      s_set (R' := ((b279, .cells #[.slice none 0 0, .int .i64 p.room, .bool p.closed, .bool true] 29) :: ((b253, .cells #[.slice oa250 (((pipeWrite p bs).1.b).length) ca250, .int .i64 ((pipeWrite p bs).1.room), .bool ((pipeWrite p bs).1.closed), .bool ((pipeWrite p bs).1.shut)] 29) :: ((b40, .cells #[.slice none 0 0, .int .i64 0, .bool false, .bool false] 29) :: ((b35, .cells #[.slice oa32 (((pipeShut p).1.b).length) ca32, .int .i64 ((pipeShut p).1.room), .bool ((pipeShut p).1.closed), .bool ((pipeShut p).1.shut)] 29) :: ((b28, .cells #[.slice oa25 (((pipeClose p).1.b).length) ca25, .int .i64 ((pipeClose p).1.room), .bool ((pipeClose p).1.closed), .bool ((pipeClose p).1.shut)] 29) :: ((b21, .cells #[.slice oa18 (((pipeRead p most).1.b).length) ca18, .int .i64 ((pipeRead p most).1.room), .bool ((pipeRead p most).1.closed), .bool ((pipeRead p most).1.shut)] 29) :: ((b14, .cells #[.slice oa11 (((pipeWrite p bs).1.b).length) ca11, .int .i64 ((pipeWrite p bs).1.room), .bool ((pipeWrite p bs).1.closed), .bool ((pipeWrite p bs).1.shut)] 29) :: ((b7, .cells #[.slice oa4 ((((pipeNew room).1).b).length) ca4, .int .i64 (((pipeNew room).1).room), .bool (((pipeNew room).1).closed), .bool (((pipeNew room).1).shut)] 29) :: ((b2, .cells #[.slice oa p.b.length cap, .int .i64 p.room, .bool true, .bool p.shut] 29) :: [])))))))))) 8 S292 ty4 rfl rfl rfl rfl rfl rfl fun w301 S302 =>
                      s_end <|
                      c_region <|
                      s_v (r_move rfl) rfl rfl rfl <|
                      s_v (r_ii rfl rfl b_eql) rfl rfl rfl <|
                      s_v (r_move rfl) rfl rfl rfl <| ?_
                    refine jw4 S302 (L' := [(247, .bool ((decide ((pipeClose p).2 = 0) && decide ((pipeClose p).1 = ⟨p.b, p.room, true, p.shut⟩)))), (0, .agg #[.slice oa p.b.length cap, .int .i64 p.room, .bool p.closed, .bool p.shut]), (1, .slice ob bs.length cbp), (2, .int .i64 most), (3, .int .i64 room), (4, .pointer (some ⟨b2, 0, none⟩)), (8, .bool false), (9, .pointer (some ⟨b7, 0, none⟩)), (10, .int .i64 ((pipeNew room).2)), (11, .pointer (some ⟨b14, 0, none⟩)), (12, .int .i64 ((pipeWrite p bs).2.1)), (13, .int .i64 ((pipeWrite p bs).2.2)), (14, .pointer (some ⟨b21, 0, none⟩)), (15, .slice ob18 (((pipeRead p most).2.1).length) cb18), (16, .int .i64 ((pipeRead p most).2.2)), (17, .pointer (some ⟨b28, 0, none⟩)), (18, .int .i64 ((pipeClose p).2)), (19, .pointer (some ⟨b35, 0, none⟩)), (20, .int .i64 ((pipeShut p).2)), (21, .pointer (some ⟨b40, 0, none⟩)), (22, .int .i64 (pipeCheck p)), (81, .bool (((!true || !decide ((pipeCheck p) = (pipeCheck p))) || !((p.closed && decide ((p.b).length = 0)) == (p.closed && decide ((p.b.length : Int) = 0)))))), (87, .bool ((decide (room < 0) || decide (1000 < room)))), (104, .bool ((!decide ((pipeNew room).2 = 0) || !(decide (((pipeNew room).1) = ⟨[], room, false, false⟩))))), (106, .bool (!decide ((pipeCheck p) = 0))), (23, .pointer (some ⟨b253, 0, none⟩)), (24, .int .i64 ((pipeWrite p bs).2.1)), (25, .int .i64 ((pipeWrite p bs).2.2)), (172, .bool (((!decide ((pipeWrite p bs).2.2 = (pipeWrite p bs).2.2) || !decide ((pipeWrite p bs).2.1 = (pipeWrite p bs).2.1)) || !(decide ((pipeWrite p bs).1 = (pipeWrite p bs).1))))), (178, .bool ((decide (most < 0) || decide (4000 < most)))), (191, .bool (((!decide ((pipeRead p most).2.2 = 3) || !decide ((((pipeRead p most).2.1).length : Int) = 0)) || !(decide ((pipeRead p most).1 = ⟨[], 0, false, false⟩))))), (28, .pointer (some ⟨b279, 0, none⟩)), (230, .bool ((!decide ((pipeShut p).2 = 0) || !(decide ((pipeShut p).1 = ⟨[], p.room, p.closed, true⟩))))), (232, .bool p.closed)]) ?KK304 (fun K304 => ?BK304)
                    case BK304 =>
                      refine w_bool (t := 243) rfl (fun hc3030 => ?_) (fun hc3030 => ?_)
                      · have hc303 := hc3030
                        try simp only [decide_eq_true_eq, decide_eq_false_iff_not, Bool.and_eq_true, Bool.and_eq_false_imp, Bool.or_eq_true, Bool.or_eq_false_iff, Bool.not_eq_true', Bool.not_eq_false', Bool.not_not, Int.not_lt, Int.not_le] at hc303
                        refine s_on rfl rfl rfl <|
                          s_v (r_getk 4 S302 ty29 rfl rfl rfl rfl) rfl rfl rfl <|
                          s_on rfl rfl rfl <|
                          s_v (r_getk 8 S302 ty29 rfl rfl rfl rfl) rfl rfl rfl <|
                          s_on rfl rfl rfl <|
                          s_callV S302 rfl call21 (ref_SamePipe _ _ S302.mem (pipeClose p).1 ⟨p.b, p.room, true, p.shut⟩ P25 F) rfl rfl fun w305 S306 =>
                          s_v (r_pickT rfl rfl rfl) rfl rfl rfl <| ?_
                        refine w_eq (t := 247) (v := .bool ((decide ((pipeClose p).2 = 0) && decide ((pipeClose p).1 = ⟨p.b, p.room, true, p.shut⟩)))) rfl (by rw [hc3030]; first | simp only [Bool.true_and, Bool.false_and, Bool.true_or, Bool.false_or] | rfl) ?_
                        exact w_only [247, 0, 1, 2, 3, 4, 8, 9, 10, 11, 12, 13, 14, 15, 16, 17, 18, 19, 20, 21, 22, 81, 87, 104, 106, 23, 24, 25, 172, 178, 191, 28, 230, 232] rfl (K304 _ S306)
                      · have hc303 := hc3030
                        try simp only [decide_eq_true_eq, decide_eq_false_iff_not, Bool.and_eq_true, Bool.and_eq_false_imp, Bool.or_eq_true, Bool.or_eq_false_iff, Bool.not_eq_true', Bool.not_eq_false', Bool.not_not, Int.not_lt, Int.not_le] at hc303
                        refine s_off rfl rfl rfl rfl rfl rfl <|
                          s_off rfl rfl rfl rfl rfl rfl <|
                          s_off rfl rfl rfl rfl rfl rfl <|
                          s_v (r_pickF rfl rfl rfl) rfl rfl rfl <| ?_
                        refine w_eq (t := 247) (v := .bool ((decide ((pipeClose p).2 = 0) && decide ((pipeClose p).1 = ⟨p.b, p.room, true, p.shut⟩)))) rfl (by rw [hc3030]; first | simp only [Bool.true_and, Bool.false_and, Bool.true_or, Bool.false_or] | rfl) ?_
                        exact w_only [247, 0, 1, 2, 3, 4, 8, 9, 10, 11, 12, 13, 14, 15, 16, 17, 18, 19, 20, 21, 22, 81, 87, 104, 106, 23, 24, 25, 172, 178, 191, 28, 230, 232] rfl (K304 _ S302)
                    intro w307 S308
                    refine s_v (r_assign rfl) rfl rfl rfl <|
                      s_end <|
                      c_ret <|
                      f_retV S308 rfl (.tmp rfl .nil) ?_
                    simp only [packV]; congr 1
                    first | rfl | grind [pipeNew, pipeWrite, pipeRead, pipeClose, pipeShut, zPipe]
            · try simp only [decide_eq_true_eq, decide_eq_false_iff_not, Bool.and_eq_true, Bool.and_eq_false_imp, Bool.or_eq_true, Bool.or_eq_false_iff, Bool.not_eq_true', Bool.not_eq_false', Bool.not_not, Int.not_lt, Int.not_le] at hc268
              refine c_region <|
                s_v (r_move rfl) rfl rfl rfl <|
                s_v (r_fieldAddr0 rfl fld29_0) rfl rfl rfl <|
                s_v (r_get 7 S264 ty27 rfl rfl rfl) rfl rfl rfl <|
                s_v (r_len rfl Try.underlying27) rfl rfl rfl <|
                s_v (r_min rfl rfl) rfl rfl rfl <|
                s_v (r_assign rfl) rfl rfl rfl <|
                s_end <|
                c_region <|
                s_v (r_getk 7 S264 ty29 rfl rfl rfl rfl) rfl rfl rfl <|
                s_alloc (cs := #[.slice none 0 0, .int .i64 0, .bool false, .bool false]) S264 ty29 rfl rfl fun w309 b310 S311 =>
                s_setk (R' := ((b310, .cells #[.slice oa p.b.length cap, .int .i64 p.room, .bool p.closed, .bool p.shut] 29) :: ((b253, .cells #[.slice oa250 (((pipeWrite p bs).1.b).length) ca250, .int .i64 ((pipeWrite p bs).1.room), .bool ((pipeWrite p bs).1.closed), .bool ((pipeWrite p bs).1.shut)] 29) :: ((b40, .cells #[.slice none 0 0, .int .i64 0, .bool false, .bool false] 29) :: ((b35, .cells #[.slice oa32 (((pipeShut p).1.b).length) ca32, .int .i64 ((pipeShut p).1.room), .bool ((pipeShut p).1.closed), .bool ((pipeShut p).1.shut)] 29) :: ((b28, .cells #[.slice oa25 (((pipeClose p).1.b).length) ca25, .int .i64 ((pipeClose p).1.room), .bool ((pipeClose p).1.closed), .bool ((pipeClose p).1.shut)] 29) :: ((b21, .cells #[.slice oa18 (((pipeRead p most).1.b).length) ca18, .int .i64 ((pipeRead p most).1.room), .bool ((pipeRead p most).1.closed), .bool ((pipeRead p most).1.shut)] 29) :: ((b14, .cells #[.slice oa11 (((pipeWrite p bs).1.b).length) ca11, .int .i64 ((pipeWrite p bs).1.room), .bool ((pipeWrite p bs).1.closed), .bool ((pipeWrite p bs).1.shut)] 29) :: ((b7, .cells #[.slice oa4 ((((pipeNew room).1).b).length) ca4, .int .i64 (((pipeNew room).1).room), .bool (((pipeNew room).1).closed), .bool (((pipeNew room).1).shut)] 29) :: ((b2, .cells #[.slice oa p.b.length cap, .int .i64 p.room, .bool p.closed, .bool p.shut] 29) :: [])))))))))) 0 S311 ty29 rfl rfl rfl (by simp [Value.oneCell', str]) rfl rfl rfl fun w312 S313 =>
                s_end <|
                c_region <|
                s_v (r_fieldAddr0 rfl fld29_0) rfl rfl rfl <|
                s_v (r_get 8 S313 ty27 rfl rfl rfl) rfl rfl rfl <|
                s_v (r_move rfl) rfl rfl rfl <|
                s_sliceL (min most.toNat p.b.length) F rfl rfl Try.underlying27 ty5 (by rw [Int.min_def, Nat.min_def]; split <;> split <;> omega) (Nat.min_le_right _ _) rfl fun oa314 cap314 F314 =>
                s_v (r_fieldAddr0 rfl fld29_0) rfl rfl rfl <|
                s_set (R' := ((b310, .cells #[.slice oa314 ((p.b.drop (min most.toNat p.b.length)).length) cap314, .int .i64 p.room, .bool p.closed, .bool p.shut] 29) :: ((b253, .cells #[.slice oa250 (((pipeWrite p bs).1.b).length) ca250, .int .i64 ((pipeWrite p bs).1.room), .bool ((pipeWrite p bs).1.closed), .bool ((pipeWrite p bs).1.shut)] 29) :: ((b40, .cells #[.slice none 0 0, .int .i64 0, .bool false, .bool false] 29) :: ((b35, .cells #[.slice oa32 (((pipeShut p).1.b).length) ca32, .int .i64 ((pipeShut p).1.room), .bool ((pipeShut p).1.closed), .bool ((pipeShut p).1.shut)] 29) :: ((b28, .cells #[.slice oa25 (((pipeClose p).1.b).length) ca25, .int .i64 ((pipeClose p).1.room), .bool ((pipeClose p).1.closed), .bool ((pipeClose p).1.shut)] 29) :: ((b21, .cells #[.slice oa18 (((pipeRead p most).1.b).length) ca18, .int .i64 ((pipeRead p most).1.room), .bool ((pipeRead p most).1.closed), .bool ((pipeRead p most).1.shut)] 29) :: ((b14, .cells #[.slice oa11 (((pipeWrite p bs).1.b).length) ca11, .int .i64 ((pipeWrite p bs).1.room), .bool ((pipeWrite p bs).1.closed), .bool ((pipeWrite p bs).1.shut)] 29) :: ((b7, .cells #[.slice oa4 ((((pipeNew room).1).b).length) ca4, .int .i64 (((pipeNew room).1).room), .bool (((pipeNew room).1).closed), .bool (((pipeNew room).1).shut)] 29) :: ((b2, .cells #[.slice oa p.b.length cap, .int .i64 p.room, .bool p.closed, .bool p.shut] 29) :: [])))))))))) 0 S313 ty27 rfl rfl rfl rfl rfl rfl fun w315 S316 =>
                s_end <|
                c_region <|
                s_v (r_move rfl) rfl rfl rfl <|
                s_v (r_ii rfl rfl b_neq) rfl rfl rfl <|
                s_v (r_move rfl) rfl rfl rfl <| ?_
              refine jw8 S316 (L' := [(213, .bool ((!decide ((pipeRead p most).2.2 = 0) || !(decide ((pipeRead p most).2.1 = (p.b.take (min most.toNat p.b.length))))))), (0, .agg #[.slice oa p.b.length cap, .int .i64 p.room, .bool p.closed, .bool p.shut]), (1, .slice ob bs.length cbp), (2, .int .i64 most), (3, .int .i64 room), (4, .pointer (some ⟨b2, 0, none⟩)), (8, .bool false), (9, .pointer (some ⟨b7, 0, none⟩)), (10, .int .i64 ((pipeNew room).2)), (11, .pointer (some ⟨b14, 0, none⟩)), (12, .int .i64 ((pipeWrite p bs).2.1)), (13, .int .i64 ((pipeWrite p bs).2.2)), (14, .pointer (some ⟨b21, 0, none⟩)), (15, .slice ob18 (((pipeRead p most).2.1).length) cb18), (16, .int .i64 ((pipeRead p most).2.2)), (17, .pointer (some ⟨b28, 0, none⟩)), (18, .int .i64 ((pipeClose p).2)), (19, .pointer (some ⟨b35, 0, none⟩)), (20, .int .i64 ((pipeShut p).2)), (21, .pointer (some ⟨b40, 0, none⟩)), (22, .int .i64 (pipeCheck p)), (81, .bool (((!true || !decide ((pipeCheck p) = (pipeCheck p))) || !((p.closed && decide ((p.b).length = 0)) == (p.closed && decide ((p.b.length : Int) = 0)))))), (87, .bool ((decide (room < 0) || decide (1000 < room)))), (104, .bool ((!decide ((pipeNew room).2 = 0) || !(decide (((pipeNew room).1) = ⟨[], room, false, false⟩))))), (106, .bool (!decide ((pipeCheck p) = 0))), (23, .pointer (some ⟨b253, 0, none⟩)), (24, .int .i64 ((pipeWrite p bs).2.1)), (25, .int .i64 ((pipeWrite p bs).2.2)), (172, .bool (((!decide ((pipeWrite p bs).2.2 = (pipeWrite p bs).2.2) || !decide ((pipeWrite p bs).2.1 = (pipeWrite p bs).2.1)) || !(decide ((pipeWrite p bs).1 = (pipeWrite p bs).1))))), (178, .bool ((decide (most < 0) || decide (4000 < most)))), (26, .int .i64 (min most (p.b.length : Int))), (27, .pointer (some ⟨b310, 0, none⟩))]) ?KK318 (fun K318 => ?BK318)
              case BK318 =>
                refine w_bool (t := 205) rfl (fun hc3170 => ?_) (fun hc3170 => ?_)
                · have hc317 := hc3170
                  try simp only [decide_eq_true_eq, decide_eq_false_iff_not, Bool.and_eq_true, Bool.and_eq_false_imp, Bool.or_eq_true, Bool.or_eq_false_iff, Bool.not_eq_true', Bool.not_eq_false', Bool.not_not, Int.not_lt, Int.not_le] at hc317
                  refine s_off rfl rfl rfl rfl rfl rfl <|
                    s_off rfl rfl rfl rfl rfl rfl <|
                    s_off rfl rfl rfl rfl rfl rfl <|
                    s_off rfl rfl rfl rfl rfl rfl <|
                    s_off rfl rfl rfl rfl rfl rfl <|
                    s_off rfl rfl rfl rfl rfl rfl <|
                    s_off rfl rfl rfl rfl rfl rfl <|
                    s_v (r_pickT rfl rfl rfl) rfl rfl rfl <| ?_
                  refine w_eq (t := 213) (v := .bool ((!decide ((pipeRead p most).2.2 = 0) || !(decide ((pipeRead p most).2.1 = (p.b.take (min most.toNat p.b.length))))))) rfl (by rw [hc3170]; first | simp only [Bool.true_and, Bool.false_and, Bool.true_or, Bool.false_or] | rfl) ?_
                  exact w_only [213, 0, 1, 2, 3, 4, 8, 9, 10, 11, 12, 13, 14, 15, 16, 17, 18, 19, 20, 21, 22, 81, 87, 104, 106, 23, 24, 25, 172, 178, 26, 27] rfl (K318 _ S316)
                · have hc317 := hc3170
                  try simp only [decide_eq_true_eq, decide_eq_false_iff_not, Bool.and_eq_true, Bool.and_eq_false_imp, Bool.or_eq_true, Bool.or_eq_false_iff, Bool.not_eq_true', Bool.not_eq_false', Bool.not_not, Int.not_lt, Int.not_le] at hc317
                  refine s_on rfl rfl rfl <|
                    s_v (r_move rfl) rfl rfl rfl <|
                    s_on rfl rfl rfl <|
                    s_v (r_fieldAddr0 rfl fld29_0) rfl rfl rfl <|
                    s_on rfl rfl rfl <|
                    s_v (r_get 8 S316 ty27 rfl rfl rfl) rfl rfl rfl <|
                    s_on rfl rfl rfl <|
                    s_v (r_move rfl) rfl rfl rfl <|
                    s_on rfl rfl rfl <|
                    s_sliceH (min most.toNat p.b.length) F rfl rfl Try.underlying27 ty5 (by rw [Int.min_def, Nat.min_def]; split <;> split <;> omega) (Nat.min_le_right _ _) rfl fun F319 =>
                    s_on rfl rfl rfl <|
                    s_callV S316 rfl call15 (Equal_bytes _ _ S316.mem Q18 F319) rfl rfl fun w320 S321 =>
                    s_on rfl rfl rfl <|
                    s_v (r_not rfl) rfl rfl rfl <|
                    s_v (r_pickF rfl rfl rfl) rfl rfl rfl <| ?_
                  refine w_eq (t := 213) (v := .bool ((!decide ((pipeRead p most).2.2 = 0) || !(decide ((pipeRead p most).2.1 = (p.b.take (min most.toNat p.b.length))))))) rfl (by rw [hc3170]; first | simp only [Bool.true_and, Bool.false_and, Bool.true_or, Bool.false_or] | rfl) ?_
                  exact w_only [213, 0, 1, 2, 3, 4, 8, 9, 10, 11, 12, 13, 14, 15, 16, 17, 18, 19, 20, 21, 22, 81, 87, 104, 106, 23, 24, 25, 172, 178, 26, 27] rfl (K318 _ S321)
              intro w322 S323
              refine s_v (r_move rfl) rfl rfl rfl <| ?_
              refine jw5 S323 (L' := [(219, .bool (((!decide ((pipeRead p most).2.2 = 0) || !(decide ((pipeRead p most).2.1 = (p.b.take (min most.toNat p.b.length))))) || !(decide ((pipeRead p most).1 = ⟨(p.b.drop (min most.toNat p.b.length)), p.room, p.closed, p.shut⟩))))), (0, .agg #[.slice oa p.b.length cap, .int .i64 p.room, .bool p.closed, .bool p.shut]), (1, .slice ob bs.length cbp), (2, .int .i64 most), (3, .int .i64 room), (4, .pointer (some ⟨b2, 0, none⟩)), (8, .bool false), (9, .pointer (some ⟨b7, 0, none⟩)), (10, .int .i64 ((pipeNew room).2)), (11, .pointer (some ⟨b14, 0, none⟩)), (12, .int .i64 ((pipeWrite p bs).2.1)), (13, .int .i64 ((pipeWrite p bs).2.2)), (14, .pointer (some ⟨b21, 0, none⟩)), (15, .slice ob18 (((pipeRead p most).2.1).length) cb18), (16, .int .i64 ((pipeRead p most).2.2)), (17, .pointer (some ⟨b28, 0, none⟩)), (18, .int .i64 ((pipeClose p).2)), (19, .pointer (some ⟨b35, 0, none⟩)), (20, .int .i64 ((pipeShut p).2)), (21, .pointer (some ⟨b40, 0, none⟩)), (22, .int .i64 (pipeCheck p)), (81, .bool (((!true || !decide ((pipeCheck p) = (pipeCheck p))) || !((p.closed && decide ((p.b).length = 0)) == (p.closed && decide ((p.b.length : Int) = 0)))))), (87, .bool ((decide (room < 0) || decide (1000 < room)))), (104, .bool ((!decide ((pipeNew room).2 = 0) || !(decide (((pipeNew room).1) = ⟨[], room, false, false⟩))))), (106, .bool (!decide ((pipeCheck p) = 0))), (23, .pointer (some ⟨b253, 0, none⟩)), (24, .int .i64 ((pipeWrite p bs).2.1)), (25, .int .i64 ((pipeWrite p bs).2.2)), (172, .bool (((!decide ((pipeWrite p bs).2.2 = (pipeWrite p bs).2.2) || !decide ((pipeWrite p bs).2.1 = (pipeWrite p bs).2.1)) || !(decide ((pipeWrite p bs).1 = (pipeWrite p bs).1))))), (178, .bool ((decide (most < 0) || decide (4000 < most)))), (26, .int .i64 (min most (p.b.length : Int))), (27, .pointer (some ⟨b310, 0, none⟩))]) ?KK325 (fun K325 => ?BK325)
              case BK325 =>
                refine w_bool (t := 214) rfl (fun hc3240 => ?_) (fun hc3240 => ?_)
                · have hc324 := hc3240
                  try simp only [decide_eq_true_eq, decide_eq_false_iff_not, Bool.and_eq_true, Bool.and_eq_false_imp, Bool.or_eq_true, Bool.or_eq_false_iff, Bool.not_eq_true', Bool.not_eq_false', Bool.not_not, Int.not_lt, Int.not_le] at hc324
                  refine s_off rfl rfl rfl rfl rfl rfl <|
                    s_off rfl rfl rfl rfl rfl rfl <|
                    s_off rfl rfl rfl rfl rfl rfl <|
                    s_off rfl rfl rfl rfl rfl rfl <|
                    s_v (r_pickT rfl rfl rfl) rfl rfl rfl <| ?_
                  refine w_eq (t := 219) (v := .bool (((!decide ((pipeRead p most).2.2 = 0) || !(decide ((pipeRead p most).2.1 = (p.b.take (min most.toNat p.b.length))))) || !(decide ((pipeRead p most).1 = ⟨(p.b.drop (min most.toNat p.b.length)), p.room, p.closed, p.shut⟩))))) rfl (by rw [hc3240]; first | simp only [Bool.true_and, Bool.false_and, Bool.true_or, Bool.false_or] | rfl) ?_
                  exact w_only [219, 0, 1, 2, 3, 4, 8, 9, 10, 11, 12, 13, 14, 15, 16, 17, 18, 19, 20, 21, 22, 81, 87, 104, 106, 23, 24, 25, 172, 178, 26, 27] rfl (K325 _ S323)
                · have hc324 := hc3240
                  try simp only [decide_eq_true_eq, decide_eq_false_iff_not, Bool.and_eq_true, Bool.and_eq_false_imp, Bool.or_eq_true, Bool.or_eq_false_iff, Bool.not_eq_true', Bool.not_eq_false', Bool.not_not, Int.not_lt, Int.not_le] at hc324
                  refine s_on rfl rfl rfl <|
                    s_v (r_getk 5 S323 ty29 rfl rfl rfl rfl) rfl rfl rfl <|
                    s_on rfl rfl rfl <|
                    s_v (r_getk 0 S323 ty29 rfl rfl rfl rfl) rfl rfl rfl <|
                    s_on rfl rfl rfl <|
                    s_callV S323 rfl call21 (ref_SamePipe _ _ S323.mem (pipeRead p most).1 ⟨(p.b.drop (min most.toNat p.b.length)), p.room, p.closed, p.shut⟩ P18 F314) rfl rfl fun w326 S327 =>
                    s_on rfl rfl rfl <|
                    s_v (r_not rfl) rfl rfl rfl <|
                    s_v (r_pickF rfl rfl rfl) rfl rfl rfl <| ?_
                  refine w_eq (t := 219) (v := .bool (((!decide ((pipeRead p most).2.2 = 0) || !(decide ((pipeRead p most).2.1 = (p.b.take (min most.toNat p.b.length))))) || !(decide ((pipeRead p most).1 = ⟨(p.b.drop (min most.toNat p.b.length)), p.room, p.closed, p.shut⟩))))) rfl (by rw [hc3240]; first | simp only [Bool.true_and, Bool.false_and, Bool.true_or, Bool.false_or] | rfl) ?_
                  exact w_only [219, 0, 1, 2, 3, 4, 8, 9, 10, 11, 12, 13, 14, 15, 16, 17, 18, 19, 20, 21, 22, 81, 87, 104, 106, 23, 24, 25, 172, 178, 26, 27] rfl (K325 _ S327)
              intro w328 S329
              refine s_end <|
                c_if rfl (fun hc330 => ?_) (fun hc330 => ?_)
              · try simp only [decide_eq_true_eq, decide_eq_false_iff_not, Bool.and_eq_true, Bool.and_eq_false_imp, Bool.or_eq_true, Bool.or_eq_false_iff, Bool.not_eq_true', Bool.not_eq_false', Bool.not_not, Int.not_lt, Int.not_le] at hc330
                refine c_region <|
                  s_v (r_assign rfl) rfl rfl rfl <|
                  s_end <|
                  c_ret <|
                  e_thenR <|
                  f_retV S329 rfl (.tmp rfl .nil) ?_
                simp only [packV]; congr 1
                first | rfl | grind [pipeNew, pipeWrite, pipeRead, pipeClose, pipeShut, zPipe]
              · try simp only [decide_eq_true_eq, decide_eq_false_iff_not, Bool.and_eq_true, Bool.and_eq_false_imp, Bool.or_eq_true, Bool.or_eq_false_iff, Bool.not_eq_true', Bool.not_eq_false', Bool.not_not, Int.not_lt, Int.not_le] at hc330
                refine c_skip <|
                  e_then <|
                  c_region <|
                  s_v (r_getk 8 S329 ty29 rfl rfl rfl rfl) rfl rfl rfl <|
                  s_alloc (cs := #[.slice none 0 0, .int .i64 0, .bool false, .bool false]) S329 ty29 rfl rfl fun w331 b332 S333 =>
                  s_setk (R' := ((b332, .cells #[.slice oa p.b.length cap, .int .i64 p.room, .bool p.closed, .bool p.shut] 29) :: ((b310, .cells #[.slice oa314 ((p.b.drop (min most.toNat p.b.length)).length) cap314, .int .i64 p.room, .bool p.closed, .bool p.shut] 29) :: ((b253, .cells #[.slice oa250 (((pipeWrite p bs).1.b).length) ca250, .int .i64 ((pipeWrite p bs).1.room), .bool ((pipeWrite p bs).1.closed), .bool ((pipeWrite p bs).1.shut)] 29) :: ((b40, .cells #[.slice none 0 0, .int .i64 0, .bool false, .bool false] 29) :: ((b35, .cells #[.slice oa32 (((pipeShut p).1.b).length) ca32, .int .i64 ((pipeShut p).1.room), .bool ((pipeShut p).1.closed), .bool ((pipeShut p).1.shut)] 29) :: ((b28, .cells #[.slice oa25 (((pipeClose p).1.b).length) ca25, .int .i64 ((pipeClose p).1.room), .bool ((pipeClose p).1.closed), .bool ((pipeClose p).1.shut)] 29) :: ((b21, .cells #[.slice oa18 (((pipeRead p most).1.b).length) ca18, .int .i64 ((pipeRead p most).1.room), .bool ((pipeRead p most).1.closed), .bool ((pipeRead p most).1.shut)] 29) :: ((b14, .cells #[.slice oa11 (((pipeWrite p bs).1.b).length) ca11, .int .i64 ((pipeWrite p bs).1.room), .bool ((pipeWrite p bs).1.closed), .bool ((pipeWrite p bs).1.shut)] 29) :: ((b7, .cells #[.slice oa4 ((((pipeNew room).1).b).length) ca4, .int .i64 (((pipeNew room).1).room), .bool (((pipeNew room).1).closed), .bool (((pipeNew room).1).shut)] 29) :: ((b2, .cells #[.slice oa p.b.length cap, .int .i64 p.room, .bool p.closed, .bool p.shut] 29) :: []))))))))))) 0 S333 ty29 rfl rfl rfl (by simp [Value.oneCell', str]) rfl rfl rfl fun w334 S335 =>
                  s_end <|
                  c_region <|
                  s_v (r_fieldAddr0 rfl fld29_0) rfl rfl rfl <|
                  s_set (R' := ((b332, .cells #[.slice none 0 0, .int .i64 p.room, .bool p.closed, .bool p.shut] 29) :: ((b310, .cells #[.slice oa314 ((p.b.drop (min most.toNat p.b.length)).length) cap314, .int .i64 p.room, .bool p.closed, .bool p.shut] 29) :: ((b253, .cells #[.slice oa250 (((pipeWrite p bs).1.b).length) ca250, .int .i64 ((pipeWrite p bs).1.room), .bool ((pipeWrite p bs).1.closed), .bool ((pipeWrite p bs).1.shut)] 29) :: ((b40, .cells #[.slice none 0 0, .int .i64 0, .bool false, .bool false] 29) :: ((b35, .cells #[.slice oa32 (((pipeShut p).1.b).length) ca32, .int .i64 ((pipeShut p).1.room), .bool ((pipeShut p).1.closed), .bool ((pipeShut p).1.shut)] 29) :: ((b28, .cells #[.slice oa25 (((pipeClose p).1.b).length) ca25, .int .i64 ((pipeClose p).1.room), .bool ((pipeClose p).1.closed), .bool ((pipeClose p).1.shut)] 29) :: ((b21, .cells #[.slice oa18 (((pipeRead p most).1.b).length) ca18, .int .i64 ((pipeRead p most).1.room), .bool ((pipeRead p most).1.closed), .bool ((pipeRead p most).1.shut)] 29) :: ((b14, .cells #[.slice oa11 (((pipeWrite p bs).1.b).length) ca11, .int .i64 ((pipeWrite p bs).1.room), .bool ((pipeWrite p bs).1.closed), .bool ((pipeWrite p bs).1.shut)] 29) :: ((b7, .cells #[.slice oa4 ((((pipeNew room).1).b).length) ca4, .int .i64 (((pipeNew room).1).room), .bool (((pipeNew room).1).closed), .bool (((pipeNew room).1).shut)] 29) :: ((b2, .cells #[.slice oa p.b.length cap, .int .i64 p.room, .bool p.closed, .bool p.shut] 29) :: []))))))))))) 0 S335 ty27 rfl rfl rfl rfl rfl rfl fun w336 S337 =>
                  s_v (r_fieldAddr0 rfl fld29_3) rfl rfl rfl <|
                  s_set (R' := ((b332, .cells #[.slice none 0 0, .int .i64 p.room, .bool p.closed, .bool true] 29) :: ((b310, .cells #[.slice oa314 ((p.b.drop (min most.toNat p.b.length)).length) cap314, .int .i64 p.room, .bool p.closed, .bool p.shut] 29) :: ((b253, .cells #[.slice oa250 (((pipeWrite p bs).1.b).length) ca250, .int .i64 ((pipeWrite p bs).1.room), .bool ((pipeWrite p bs).1.closed), .bool ((pipeWrite p bs).1.shut)] 29) :: ((b40, .cells #[.slice none 0 0, .int .i64 0, .bool false, .bool false] 29) :: ((b35, .cells #[.slice oa32 (((pipeShut p).1.b).length) ca32, .int .i64 ((pipeShut p).1.room), .bool ((pipeShut p).1.closed), .bool ((pipeShut p).1.shut)] 29) :: ((b28, .cells #[.slice oa25 (((pipeClose p).1.b).length) ca25, .int .i64 ((pipeClose p).1.room), .bool ((pipeClose p).1.closed), .bool ((pipeClose p).1.shut)] 29) :: ((b21, .cells #[.slice oa18 (((pipeRead p most).1.b).length) ca18, .int .i64 ((pipeRead p most).1.room), .bool ((pipeRead p most).1.closed), .bool ((pipeRead p most).1.shut)] 29) :: ((b14, .cells #[.slice oa11 (((pipeWrite p bs).1.b).length) ca11, .int .i64 ((pipeWrite p bs).1.room), .bool ((pipeWrite p bs).1.closed), .bool ((pipeWrite p bs).1.shut)] 29) :: ((b7, .cells #[.slice oa4 ((((pipeNew room).1).b).length) ca4, .int .i64 (((pipeNew room).1).room), .bool (((pipeNew room).1).closed), .bool (((pipeNew room).1).shut)] 29) :: ((b2, .cells #[.slice oa p.b.length cap, .int .i64 p.room, .bool p.closed, .bool p.shut] 29) :: []))))))))))) 0 S337 ty4 rfl rfl rfl rfl rfl rfl fun w338 S339 =>
                  s_end <|
                  c_seq <|
                  c_region <|
                  s_v (r_move rfl) rfl rfl rfl <|
                  s_v (r_ii rfl rfl b_neq) rfl rfl rfl <|
                  s_v (r_move rfl) rfl rfl rfl <| ?_
                refine jw5 S339 (L' := [(230, .bool ((!decide ((pipeShut p).2 = 0) || !(decide ((pipeShut p).1 = ⟨[], p.room, p.closed, true⟩))))), (0, .agg #[.slice oa p.b.length cap, .int .i64 p.room, .bool p.closed, .bool p.shut]), (1, .slice ob bs.length cbp), (2, .int .i64 most), (3, .int .i64 room), (4, .pointer (some ⟨b2, 0, none⟩)), (8, .bool false), (9, .pointer (some ⟨b7, 0, none⟩)), (10, .int .i64 ((pipeNew room).2)), (11, .pointer (some ⟨b14, 0, none⟩)), (12, .int .i64 ((pipeWrite p bs).2.1)), (13, .int .i64 ((pipeWrite p bs).2.2)), (14, .pointer (some ⟨b21, 0, none⟩)), (15, .slice ob18 (((pipeRead p most).2.1).length) cb18), (16, .int .i64 ((pipeRead p most).2.2)), (17, .pointer (some ⟨b28, 0, none⟩)), (18, .int .i64 ((pipeClose p).2)), (19, .pointer (some ⟨b35, 0, none⟩)), (20, .int .i64 ((pipeShut p).2)), (21, .pointer (some ⟨b40, 0, none⟩)), (22, .int .i64 (pipeCheck p)), (81, .bool (((!true || !decide ((pipeCheck p) = (pipeCheck p))) || !((p.closed && decide ((p.b).length = 0)) == (p.closed && decide ((p.b.length : Int) = 0)))))), (87, .bool ((decide (room < 0) || decide (1000 < room)))), (104, .bool ((!decide ((pipeNew room).2 = 0) || !(decide (((pipeNew room).1) = ⟨[], room, false, false⟩))))), (106, .bool (!decide ((pipeCheck p) = 0))), (23, .pointer (some ⟨b253, 0, none⟩)), (24, .int .i64 ((pipeWrite p bs).2.1)), (25, .int .i64 ((pipeWrite p bs).2.2)), (172, .bool (((!decide ((pipeWrite p bs).2.2 = (pipeWrite p bs).2.2) || !decide ((pipeWrite p bs).2.1 = (pipeWrite p bs).2.1)) || !(decide ((pipeWrite p bs).1 = (pipeWrite p bs).1))))), (178, .bool ((decide (most < 0) || decide (4000 < most)))), (26, .int .i64 (min most (p.b.length : Int))), (27, .pointer (some ⟨b310, 0, none⟩)), (219, .bool (((!decide ((pipeRead p most).2.2 = 0) || !(decide ((pipeRead p most).2.1 = (p.b.take (min most.toNat p.b.length))))) || !(decide ((pipeRead p most).1 = ⟨(p.b.drop (min most.toNat p.b.length)), p.room, p.closed, p.shut⟩))))), (28, .pointer (some ⟨b332, 0, none⟩))]) ?KK341 (fun K341 => ?BK341)
                case BK341 =>
                  refine w_bool (t := 225) rfl (fun hc3400 => ?_) (fun hc3400 => ?_)
                  · have hc340 := hc3400
                    try simp only [decide_eq_true_eq, decide_eq_false_iff_not, Bool.and_eq_true, Bool.and_eq_false_imp, Bool.or_eq_true, Bool.or_eq_false_iff, Bool.not_eq_true', Bool.not_eq_false', Bool.not_not, Int.not_lt, Int.not_le] at hc340
                    refine s_off rfl rfl rfl rfl rfl rfl <|
                      s_off rfl rfl rfl rfl rfl rfl <|
                      s_off rfl rfl rfl rfl rfl rfl <|
                      s_off rfl rfl rfl rfl rfl rfl <|
                      s_v (r_pickT rfl rfl rfl) rfl rfl rfl <| ?_
                    refine w_eq (t := 230) (v := .bool ((!decide ((pipeShut p).2 = 0) || !(decide ((pipeShut p).1 = ⟨[], p.room, p.closed, true⟩))))) rfl (by rw [hc3400]; first | simp only [Bool.true_and, Bool.false_and, Bool.true_or, Bool.false_or] | rfl) ?_
                    exact w_only [230, 0, 1, 2, 3, 4, 8, 9, 10, 11, 12, 13, 14, 15, 16, 17, 18, 19, 20, 21, 22, 81, 87, 104, 106, 23, 24, 25, 172, 178, 26, 27, 219, 28] rfl (K341 _ S339)
                  · have hc340 := hc3400
                    try simp only [decide_eq_true_eq, decide_eq_false_iff_not, Bool.and_eq_true, Bool.and_eq_false_imp, Bool.or_eq_true, Bool.or_eq_false_iff, Bool.not_eq_true', Bool.not_eq_false', Bool.not_not, Int.not_lt, Int.not_le] at hc340
                    refine s_on rfl rfl rfl <|
                      s_v (r_getk 4 S339 ty29 rfl rfl rfl rfl) rfl rfl rfl <|
                      s_on rfl rfl rfl <|
                      s_v (r_getk 0 S339 ty29 rfl rfl rfl rfl) rfl rfl rfl <|
                      s_on rfl rfl rfl <|
                      s_callV S339 rfl call21 (ref_SamePipe _ _ S339.mem (pipeShut p).1 ⟨[], p.room, p.closed, true⟩ P32 SlA.none) rfl rfl fun w342 S343 =>
                      s_on rfl rfl rfl <|
                      s_v (r_not rfl) rfl rfl rfl <|
                      s_v (r_pickF rfl rfl rfl) rfl rfl rfl <| ?_
                    refine w_eq (t := 230) (v := .bool ((!decide ((pipeShut p).2 = 0) || !(decide ((pipeShut p).1 = ⟨[], p.room, p.closed, true⟩))))) rfl (by rw [hc3400]; first | simp only [Bool.true_and, Bool.false_and, Bool.true_or, Bool.false_or] | rfl) ?_
                    exact w_only [230, 0, 1, 2, 3, 4, 8, 9, 10, 11, 12, 13, 14, 15, 16, 17, 18, 19, 20, 21, 22, 81, 87, 104, 106, 23, 24, 25, 172, 178, 26, 27, 219, 28] rfl (K341 _ S343)
                intro w344 S345
                refine s_end <|
                  c_if rfl (fun hc346 => ?_) (fun hc346 => ?_)
                · try simp only [decide_eq_true_eq, decide_eq_false_iff_not, Bool.and_eq_true, Bool.and_eq_false_imp, Bool.or_eq_true, Bool.or_eq_false_iff, Bool.not_eq_true', Bool.not_eq_false', Bool.not_not, Int.not_lt, Int.not_le] at hc346
                  refine c_region <|
                    s_v (r_assign rfl) rfl rfl rfl <|
                    s_end <|
                    c_ret <|
                    e_thenR <|
                    f_retV S345 rfl (.tmp rfl .nil) ?_
                  simp only [packV]; congr 1
                  first | rfl | grind [pipeNew, pipeWrite, pipeRead, pipeClose, pipeShut, zPipe]
                · try simp only [decide_eq_true_eq, decide_eq_false_iff_not, Bool.and_eq_true, Bool.and_eq_false_imp, Bool.or_eq_true, Bool.or_eq_false_iff, Bool.not_eq_true', Bool.not_eq_false', Bool.not_not, Int.not_lt, Int.not_le] at hc346
                  refine c_skip <|
                    e_then <|
                    c_seq <|
                    c_region <|
                    s_v (r_fieldAddr0 rfl fld29_2) rfl rfl rfl <|
                    s_v (r_get 9 S345 ty4 rfl rfl rfl) rfl rfl rfl <|
                    s_end <|
                    c_if rfl (fun hc347 => ?_) (fun hc347 => ?_)
                  · try simp only [decide_eq_true_eq, decide_eq_false_iff_not, Bool.and_eq_true, Bool.and_eq_false_imp, Bool.or_eq_true, Bool.or_eq_false_iff, Bool.not_eq_true', Bool.not_eq_false', Bool.not_not, Int.not_lt, Int.not_le] at hc347
                    refine c_region <|
                      s_v (r_move rfl) rfl rfl rfl <|
                      s_v (r_ii rfl rfl b_eql) rfl rfl rfl <|
                      s_v (r_move rfl) rfl rfl rfl <| ?_
                    refine jw4 S345 (L' := [(239, .bool ((decide ((pipeClose p).2 = 7) && decide ((pipeClose p).1 = ⟨[], 0, false, false⟩)))), (0, .agg #[.slice oa p.b.length cap, .int .i64 p.room, .bool p.closed, .bool p.shut]), (1, .slice ob bs.length cbp), (2, .int .i64 most), (3, .int .i64 room), (4, .pointer (some ⟨b2, 0, none⟩)), (8, .bool false), (9, .pointer (some ⟨b7, 0, none⟩)), (10, .int .i64 ((pipeNew room).2)), (11, .pointer (some ⟨b14, 0, none⟩)), (12, .int .i64 ((pipeWrite p bs).2.1)), (13, .int .i64 ((pipeWrite p bs).2.2)), (14, .pointer (some ⟨b21, 0, none⟩)), (15, .slice ob18 (((pipeRead p most).2.1).length) cb18), (16, .int .i64 ((pipeRead p most).2.2)), (17, .pointer (some ⟨b28, 0, none⟩)), (18, .int .i64 ((pipeClose p).2)), (19, .pointer (some ⟨b35, 0, none⟩)), (20, .int .i64 ((pipeShut p).2)), (21, .pointer (some ⟨b40, 0, none⟩)), (22, .int .i64 (pipeCheck p)), (81, .bool (((!true || !decide ((pipeCheck p) = (pipeCheck p))) || !((p.closed && decide ((p.b).length = 0)) == (p.closed && decide ((p.b.length : Int) = 0)))))), (87, .bool ((decide (room < 0) || decide (1000 < room)))), (104, .bool ((!decide ((pipeNew room).2 = 0) || !(decide (((pipeNew room).1) = ⟨[], room, false, false⟩))))), (106, .bool (!decide ((pipeCheck p) = 0))), (23, .pointer (some ⟨b253, 0, none⟩)), (24, .int .i64 ((pipeWrite p bs).2.1)), (25, .int .i64 ((pipeWrite p bs).2.2)), (172, .bool (((!decide ((pipeWrite p bs).2.2 = (pipeWrite p bs).2.2) || !decide ((pipeWrite p bs).2.1 = (pipeWrite p bs).2.1)) || !(decide ((pipeWrite p bs).1 = (pipeWrite p bs).1))))), (178, .bool ((decide (most < 0) || decide (4000 < most)))), (26, .int .i64 (min most (p.b.length : Int))), (27, .pointer (some ⟨b310, 0, none⟩)), (219, .bool (((!decide ((pipeRead p most).2.2 = 0) || !(decide ((pipeRead p most).2.1 = (p.b.take (min most.toNat p.b.length))))) || !(decide ((pipeRead p most).1 = ⟨(p.b.drop (min most.toNat p.b.length)), p.room, p.closed, p.shut⟩))))), (28, .pointer (some ⟨b332, 0, none⟩)), (230, .bool ((!decide ((pipeShut p).2 = 0) || !(decide ((pipeShut p).1 = ⟨[], p.room, p.closed, true⟩))))), (232, .bool p.closed)]) ?KK349 (fun K349 => ?BK349)
                    case BK349 =>
                      refine w_bool (t := 235) rfl (fun hc3480 => ?_) (fun hc3480 => ?_)
                      · have hc348 := hc3480
                        try simp only [decide_eq_true_eq, decide_eq_false_iff_not, Bool.and_eq_true, Bool.and_eq_false_imp, Bool.or_eq_true, Bool.or_eq_false_iff, Bool.not_eq_true', Bool.not_eq_false', Bool.not_not, Int.not_lt, Int.not_le] at hc348
                        refine s_on rfl rfl rfl <|
                          s_v (r_getk 5 S345 ty29 rfl rfl rfl rfl) rfl rfl rfl <|
                          s_on rfl rfl rfl <|
                          s_v (r_getk 3 S345 ty29 rfl rfl rfl rfl) rfl rfl rfl <|
                          s_on rfl rfl rfl <|
                          s_callV S345 rfl call21 (ref_SamePipe _ _ S345.mem (pipeClose p).1 ⟨[], 0, false, false⟩ P25 SlA.none) rfl rfl fun w350 S351 =>
                          s_v (r_pickT rfl rfl rfl) rfl rfl rfl <| ?_
                        refine w_eq (t := 239) (v := .bool ((decide ((pipeClose p).2 = 7) && decide ((pipeClose p).1 = ⟨[], 0, false, false⟩)))) rfl (by rw [hc3480]; first | simp only [Bool.true_and, Bool.false_and, Bool.true_or, Bool.false_or] | rfl) ?_
                        exact w_only [239, 0, 1, 2, 3, 4, 8, 9, 10, 11, 12, 13, 14, 15, 16, 17, 18, 19, 20, 21, 22, 81, 87, 104, 106, 23, 24, 25, 172, 178, 26, 27, 219, 28, 230, 232] rfl (K349 _ S351)
                      · have hc348 := hc3480
                        try simp only [decide_eq_true_eq, decide_eq_false_iff_not, Bool.and_eq_true, Bool.and_eq_false_imp, Bool.or_eq_true, Bool.or_eq_false_iff, Bool.not_eq_true', Bool.not_eq_false', Bool.not_not, Int.not_lt, Int.not_le] at hc348
                        refine s_off rfl rfl rfl rfl rfl rfl <|
                          s_off rfl rfl rfl rfl rfl rfl <|
                          s_off rfl rfl rfl rfl rfl rfl <|
                          s_v (r_pickF rfl rfl rfl) rfl rfl rfl <| ?_
                        refine w_eq (t := 239) (v := .bool ((decide ((pipeClose p).2 = 7) && decide ((pipeClose p).1 = ⟨[], 0, false, false⟩)))) rfl (by rw [hc3480]; first | simp only [Bool.true_and, Bool.false_and, Bool.true_or, Bool.false_or] | rfl) ?_
                        exact w_only [239, 0, 1, 2, 3, 4, 8, 9, 10, 11, 12, 13, 14, 15, 16, 17, 18, 19, 20, 21, 22, 81, 87, 104, 106, 23, 24, 25, 172, 178, 26, 27, 219, 28, 230, 232] rfl (K349 _ S345)
                    intro w352 S353
                    refine s_v (r_assign rfl) rfl rfl rfl <|
                      s_end <|
                      c_ret <|
                      e_thenR <|
                      f_retV S353 rfl (.tmp rfl .nil) ?_
                    simp only [packV]; congr 1
                    first | rfl | grind [pipeNew, pipeWrite, pipeRead, pipeClose, pipeShut, zPipe]
                  · try simp only [decide_eq_true_eq, decide_eq_false_iff_not, Bool.and_eq_true, Bool.and_eq_false_imp, Bool.or_eq_true, Bool.or_eq_false_iff, Bool.not_eq_true', Bool.not_eq_false', Bool.not_not, Int.not_lt, Int.not_le] at hc347
                    refine c_skip <|
                      e_then <|
                      c_region <|
                      s_v (r_fieldAddr0 rfl fld29_2) rfl rfl rfl <|
                      s_set (R' := ((b332, .cells #[.slice none 0 0, .int .i64 p.room, .bool p.closed, .bool true] 29) :: ((b310, .cells #[.slice oa314 ((p.b.drop (min most.toNat p.b.length)).length) cap314, .int .i64 p.room, .bool p.closed, .bool p.shut] 29) :: ((b253, .cells #[.slice oa250 (((pipeWrite p bs).1.b).length) ca250, .int .i64 ((pipeWrite p bs).1.room), .bool ((pipeWrite p bs).1.closed), .bool ((pipeWrite p bs).1.shut)] 29) :: ((b40, .cells #[.slice none 0 0, .int .i64 0, .bool false, .bool false] 29) :: ((b35, .cells #[.slice oa32 (((pipeShut p).1.b).length) ca32, .int .i64 ((pipeShut p).1.room), .bool ((pipeShut p).1.closed), .bool ((pipeShut p).1.shut)] 29) :: ((b28, .cells #[.slice oa25 (((pipeClose p).1.b).length) ca25, .int .i64 ((pipeClose p).1.room), .bool ((pipeClose p).1.closed), .bool ((pipeClose p).1.shut)] 29) :: ((b21, .cells #[.slice oa18 (((pipeRead p most).1.b).length) ca18, .int .i64 ((pipeRead p most).1.room), .bool ((pipeRead p most).1.closed), .bool ((pipeRead p most).1.shut)] 29) :: ((b14, .cells #[.slice oa11 (((pipeWrite p bs).1.b).length) ca11, .int .i64 ((pipeWrite p bs).1.room), .bool ((pipeWrite p bs).1.closed), .bool ((pipeWrite p bs).1.shut)] 29) :: ((b7, .cells #[.slice oa4 ((((pipeNew room).1).b).length) ca4, .int .i64 (((pipeNew room).1).room), .bool (((pipeNew room).1).closed), .bool (((pipeNew room).1).shut)] 29) :: ((b2, .cells #[.slice oa p.b.length cap, .int .i64 p.room, .bool true, .bool p.shut] 29) :: []))))))))))) 9 S345 ty4 rfl rfl rfl rfl rfl rfl fun w354 S355 =>
                      s_end <|
                      c_region <|
                      s_v (r_move rfl) rfl rfl rfl <|
                      s_v (r_ii rfl rfl b_eql) rfl rfl rfl <|
                      s_v (r_move rfl) rfl rfl rfl <| ?_
                    refine jw4 S355 (L' := [(247, .bool ((decide ((pipeClose p).2 = 0) && decide ((pipeClose p).1 = ⟨p.b, p.room, true, p.shut⟩)))), (0, .agg #[.slice oa p.b.length cap, .int .i64 p.room, .bool p.closed, .bool p.shut]), (1, .slice ob bs.length cbp), (2, .int .i64 most), (3, .int .i64 room), (4, .pointer (some ⟨b2, 0, none⟩)), (8, .bool false), (9, .pointer (some ⟨b7, 0, none⟩)), (10, .int .i64 ((pipeNew room).2)), (11, .pointer (some ⟨b14, 0, none⟩)), (12, .int .i64 ((pipeWrite p bs).2.1)), (13, .int .i64 ((pipeWrite p bs).2.2)), (14, .pointer (some ⟨b21, 0, none⟩)), (15, .slice ob18 (((pipeRead p most).2.1).length) cb18), (16, .int .i64 ((pipeRead p most).2.2)), (17, .pointer (some ⟨b28, 0, none⟩)), (18, .int .i64 ((pipeClose p).2)), (19, .pointer (some ⟨b35, 0, none⟩)), (20, .int .i64 ((pipeShut p).2)), (21, .pointer (some ⟨b40, 0, none⟩)), (22, .int .i64 (pipeCheck p)), (81, .bool (((!true || !decide ((pipeCheck p) = (pipeCheck p))) || !((p.closed && decide ((p.b).length = 0)) == (p.closed && decide ((p.b.length : Int) = 0)))))), (87, .bool ((decide (room < 0) || decide (1000 < room)))), (104, .bool ((!decide ((pipeNew room).2 = 0) || !(decide (((pipeNew room).1) = ⟨[], room, false, false⟩))))), (106, .bool (!decide ((pipeCheck p) = 0))), (23, .pointer (some ⟨b253, 0, none⟩)), (24, .int .i64 ((pipeWrite p bs).2.1)), (25, .int .i64 ((pipeWrite p bs).2.2)), (172, .bool (((!decide ((pipeWrite p bs).2.2 = (pipeWrite p bs).2.2) || !decide ((pipeWrite p bs).2.1 = (pipeWrite p bs).2.1)) || !(decide ((pipeWrite p bs).1 = (pipeWrite p bs).1))))), (178, .bool ((decide (most < 0) || decide (4000 < most)))), (26, .int .i64 (min most (p.b.length : Int))), (27, .pointer (some ⟨b310, 0, none⟩)), (219, .bool (((!decide ((pipeRead p most).2.2 = 0) || !(decide ((pipeRead p most).2.1 = (p.b.take (min most.toNat p.b.length))))) || !(decide ((pipeRead p most).1 = ⟨(p.b.drop (min most.toNat p.b.length)), p.room, p.closed, p.shut⟩))))), (28, .pointer (some ⟨b332, 0, none⟩)), (230, .bool ((!decide ((pipeShut p).2 = 0) || !(decide ((pipeShut p).1 = ⟨[], p.room, p.closed, true⟩))))), (232, .bool p.closed)]) ?KK357 (fun K357 => ?BK357)
                    case BK357 =>
                      refine w_bool (t := 243) rfl (fun hc3560 => ?_) (fun hc3560 => ?_)
                      · have hc356 := hc3560
                        try simp only [decide_eq_true_eq, decide_eq_false_iff_not, Bool.and_eq_true, Bool.and_eq_false_imp, Bool.or_eq_true, Bool.or_eq_false_iff, Bool.not_eq_true', Bool.not_eq_false', Bool.not_not, Int.not_lt, Int.not_le] at hc356
                        refine s_on rfl rfl rfl <|
                          s_v (r_getk 5 S355 ty29 rfl rfl rfl rfl) rfl rfl rfl <|
                          s_on rfl rfl rfl <|
                          s_v (r_getk 9 S355 ty29 rfl rfl rfl rfl) rfl rfl rfl <|
                          s_on rfl rfl rfl <|
                          s_callV S355 rfl call21 (ref_SamePipe _ _ S355.mem (pipeClose p).1 ⟨p.b, p.room, true, p.shut⟩ P25 F) rfl rfl fun w358 S359 =>
                          s_v (r_pickT rfl rfl rfl) rfl rfl rfl <| ?_
                        refine w_eq (t := 247) (v := .bool ((decide ((pipeClose p).2 = 0) && decide ((pipeClose p).1 = ⟨p.b, p.room, true, p.shut⟩)))) rfl (by rw [hc3560]; first | simp only [Bool.true_and, Bool.false_and, Bool.true_or, Bool.false_or] | rfl) ?_
                        exact w_only [247, 0, 1, 2, 3, 4, 8, 9, 10, 11, 12, 13, 14, 15, 16, 17, 18, 19, 20, 21, 22, 81, 87, 104, 106, 23, 24, 25, 172, 178, 26, 27, 219, 28, 230, 232] rfl (K357 _ S359)
                      · have hc356 := hc3560
                        try simp only [decide_eq_true_eq, decide_eq_false_iff_not, Bool.and_eq_true, Bool.and_eq_false_imp, Bool.or_eq_true, Bool.or_eq_false_iff, Bool.not_eq_true', Bool.not_eq_false', Bool.not_not, Int.not_lt, Int.not_le] at hc356
                        refine s_off rfl rfl rfl rfl rfl rfl <|
                          s_off rfl rfl rfl rfl rfl rfl <|
                          s_off rfl rfl rfl rfl rfl rfl <|
                          s_v (r_pickF rfl rfl rfl) rfl rfl rfl <| ?_
                        refine w_eq (t := 247) (v := .bool ((decide ((pipeClose p).2 = 0) && decide ((pipeClose p).1 = ⟨p.b, p.room, true, p.shut⟩)))) rfl (by rw [hc3560]; first | simp only [Bool.true_and, Bool.false_and, Bool.true_or, Bool.false_or] | rfl) ?_
                        exact w_only [247, 0, 1, 2, 3, 4, 8, 9, 10, 11, 12, 13, 14, 15, 16, 17, 18, 19, 20, 21, 22, 81, 87, 104, 106, 23, 24, 25, 172, 178, 26, 27, 219, 28, 230, 232] rfl (K357 _ S355)
                    intro w360 S361
                    refine s_v (r_assign rfl) rfl rfl rfl <|
                      s_end <|
                      c_ret <|
                      f_retV S361 rfl (.tmp rfl .nil) ?_
                    simp only [packV]; congr 1
                    first | rfl | grind [pipeNew, pipeWrite, pipeRead, pipeClose, pipeShut, zPipe]

/-- The cells that a pipe has. -/
def RPipe (m : Mem) (cs : List Value) (p : PipeS) : Prop := ∃ oa cap, cs = [.slice oa p.b.length cap, .int .i64 p.room, .bool p.closed, .bool p.shut] ∧ Bys m oa cap p.b ∧ I64 p.room
theorem opens_pipe : Opens Try.prog 29 RPipe := ⟨fun enc w fuel cs x h => by
  have hw := opens_width Try.underlying29 h
  have c29 : Try.prog.cellsOf 29 = 4 := by kernel_rfl
  obtain ⟨b, oa, cap, h0, F⟩ := opens_field (T := 27) 0 0 1 Try.underlying29 rfl rfl rfl (by kernel_rfl) (opens_slice (k := 1) (by_ := 1) Try.underlying27 (by kernel_rfl) (by omega) (opens_byte Try.underlying5)) h
  obtain ⟨room, h1, hi⟩ := opens_field (T := 3) 1 1 1 Try.underlying29 rfl rfl rfl (by kernel_rfl) (opens_int Try.underlying3) h
  obtain ⟨c, h2⟩ := opens_field (T := 4) 2 2 1 Try.underlying29 rfl rfl rfl (by kernel_rfl) (opens_bool Try.underlying4) h
  obtain ⟨s, h3⟩ := opens_field (T := 4) 3 3 1 Try.underlying29 rfl rfl rfl (by kernel_rfl) (opens_bool Try.underlying4) h
  rw [c29] at hw
  match cs, hw with
  | [u0, u1, u2, u3], _ =>
    simp only [Enc, List.drop_zero, List.drop_succ_cons, List.take_succ_cons, List.take_zero, List.cons.injEq, and_true] at h0 h1 h2 h3
    subst h0 h1 h2 h3
    exact ⟨⟨b, room, c, s⟩, oa, cap, rfl, F, hi⟩⟩

end Go.Proofs.Ytffljdmmambdjaa
