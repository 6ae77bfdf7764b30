/- What functions of the program come to (P2): in every world; the conditions stand in each theorem. -/
import Derived.Test.YtffljdmmambdjaaP1
set_option linter.unusedVariables false
set_option linter.unusedSimpArgs false
/-! Commands, lines of a script, graphs, plans: in plain words. -/
namespace Gp
structure Cmd where
  kind : Int
  word : Bs
  n : Int
  deriving DecidableEq
structure LineS where
  frm : List Bs
  cmds : List Cmd
  to : Bs
  deriving DecidableEq
structure Port where
  node : Int
  out : Int
  deriving DecidableEq
structure Node where
  kind : Int
  file : Bs
  c : Cmd
  how : Int
  wide : Int
  ins : List Port
  deriving DecidableEq
def wordByte (c : UInt8) : Bool := (decide (97 ≤ c.toNat) && decide (c.toNat ≤ 122)) || (decide (48 ≤ c.toNat) && decide (c.toNat ≤ 57))
def isWord (s : Bs) : Bool := decide (s ≠ []) && decide (s.length ≤ 12) && s.all wordByte
def useWord (c : Cmd) : Bool := decide (c.kind = 1) || decide (c.kind = 2) || decide (c.kind = 3)
def useN (c : Cmd) : Bool := decide (c.kind = 4) || decide (c.kind = 9) || decide (c.kind = 10)
def checkCmd (c : Cmd) : Int :=
  if c.kind < 1 ∨ 10 < c.kind then 4
  else if (useWord c = false ∧ c.word ≠ []) ∨ (useN c = false ∧ c.n ≠ 0) then 4
  else if useN c = true ∧ (c.n < 1 ∨ 1000 < c.n) then 3
  else if (useWord c = true ∧ isWord c.word = false) ∨ (c.kind = 3 ∧ c.word.length ≠ 2) then 1
  else 0
def firstBad : List Cmd → Int
  | [] => 0
  | c :: r => if checkCmd c = 0 then firstBad r else checkCmd c
def checkLine (l : LineS) : Int :=
  if l.frm.length = 0 ∨ 4 < l.frm.length ∨ 6 < l.cmds.length then 2
  else if (l.frm ++ [l.to]).all isWord = false then 1
  else firstBad l.cmds
def each (c : Cmd) : Bool := decide (1 ≤ c.kind) && decide (c.kind ≤ 5)
def howFor (c : Cmd) : Int := if c.kind = 6 then 2 else if c.kind = 8 then 3 else if c.kind = 7 ∨ c.kind = 9 ∨ c.kind = 10 then 4 else 1
theorem firstBad_at : ∀ {l : List Cmd}, firstBad l = 0 → ∀ c ∈ l, checkCmd c = 0
  | [], h, c, hc => by cases hc
  | c :: r, h, x, hx => by
    unfold firstBad at h
    split at h
    · rename_i h1
      rcases List.mem_cons.1 hx with rfl | hx
      · exact h1
      · exact firstBad_at h x hx
    · rename_i h1; exact absurd h h1
/-! ### Plans -/
def zCmd : Cmd := ⟨0, [], 0⟩
def srcN (f : Bs) : Node := ⟨1, f, zCmd, 0, 0, []⟩
def splitN (w : Int) (ins : List Port) : Node := ⟨2, [], zCmd, 0, w, ins⟩
def workN (c : Cmd) (ins : List Port) : Node := ⟨3, [], c, 0, 0, ins⟩
def joinN (how : Int) (c : Cmd) (ins : List Port) : Node := ⟨4, [], c, how, 0, ins⟩
def sinkN (f : Bs) (ins : List Port) : Node := ⟨5, f, zCmd, 0, 0, ins⟩
structure Desk where
  nodes : List Node
  cur : List Port
def Desk.src (d : Desk) (f : Bs) : Desk := ⟨d.nodes ++ [srcN f], d.cur ++ [⟨d.nodes.length, 0⟩]⟩
def Desk.behind (d : Desk) : Desk := if 1 < d.cur.length then ⟨d.nodes ++ [joinN 1 zCmd d.cur], [⟨d.nodes.length, 0⟩]⟩ else d
def ports (i : Int) (n : Nat) : List Port := (List.range n).map fun (k : Nat) => ⟨i, (k : Int)⟩
def outs (i : Int) (n : Nat) : List Port := (List.range n).map fun (k : Nat) => ⟨i + (k : Int), 0⟩
def Desk.wide (d : Desk) (n : Int) : Desk := if 1 < d.cur.length ∨ n = 1 then d else ⟨d.nodes ++ [splitN n d.cur], ports d.nodes.length n.toNat⟩
def Desk.work (d : Desk) (c : Cmd) : Desk := ⟨d.nodes ++ d.cur.map fun p => workN c [p], outs d.nodes.length d.cur.length⟩
def Desk.fin (d : Desk) (c : Cmd) : Desk := ⟨d.nodes ++ [joinN (howFor c) (if howFor c = 4 then c else zCmd) d.cur], [⟨d.nodes.length, 0⟩]⟩
def Desk.step (wide : Int) (d : Desk) (c : Cmd) : Desk := if each c = true ∨ wide = 1 then (d.wide wide).work c else ((d.wide wide).work c).fin c
def srcs (l : List Bs) : Desk := l.foldl Desk.src ⟨[], []⟩
def steps (wide : Int) (d : Desk) (l : List Cmd) : Desk := l.foldl (Desk.step wide) d
def planDesk (l : LineS) (wide : Int) : Desk := (steps wide (srcs l.frm).behind l.cmds).behind
def planNodes (l : LineS) (wide : Int) : List Node := (planDesk l wide).nodes ++ [sinkN l.to (planDesk l wide).cur]
def plan (l : LineS) (wide : Int) : List Node × Int :=
  if checkLine l ≠ 0 then ([], checkLine l) else if wide < 1 ∨ 5 < wide then ([], 3) else (planNodes l wide, 0)
theorem ports_len (i : Int) (n : Nat) : (ports i n).length = n := by simp [ports]
theorem outs_len (i : Int) (n : Nat) : (outs i n).length = n := by simp [outs]
theorem ports_succ (i : Int) (n : Nat) : ports i (n + 1) = ports i n ++ [⟨i, (n : Int)⟩] := by simp [ports, List.range_succ]
theorem outs_succ (i : Int) (n : Nat) : outs i (n + 1) = outs i n ++ [⟨i + (n : Int), 0⟩] := by simp [outs, List.range_succ]
theorem srcs_take {l : List Bs} {i : Nat} (h : i < l.length) : srcs (l.take (i + 1)) = (srcs (l.take i)).src l[i] := by
  unfold srcs
  rw [List.take_succ_eq_append_getElem h, List.foldl_append]
  rfl
theorem steps_take {w : Int} {d : Desk} {l : List Cmd} {i : Nat} (h : i < l.length) : steps w d (l.take (i + 1)) = (steps w d (l.take i)).step w l[i] := by
  unfold steps
  rw [List.take_succ_eq_append_getElem h, List.foldl_append]
  rfl
/-- How many nodes are of a kind. -/
def cnt (k : Int) (l : List Node) : Nat := (l.filter fun n => decide (n.kind = k)).length
theorem cnt_append (k : Int) (a b : List Node) : cnt k (a ++ b) = cnt k a + cnt k b := by simp [cnt]
theorem cnt_snoc (k : Int) (a : List Node) (n : Node) : cnt k (a ++ [n]) = cnt k a + (if n.kind = k then 1 else 0) := by
  rw [cnt_append]
  by_cases h : n.kind = k <;> simp [cnt, h]
theorem cnt_work (k : Int) (c : Cmd) (l : List Port) : cnt k (l.map fun p => workN c [p]) = if k = 3 then l.length else 0 := by
  induction l with
  | nil => simp [cnt]
  | cons p l ih =>
    rw [List.map_cons, show (workN c [p] :: l.map fun p => workN c [p]) = [workN c [p]] ++ l.map (fun p => workN c [p]) from rfl, cnt_append, ih]
    by_cases h : k = 3
    · subst h; simp [cnt, workN]; omega
    · have h' : ¬ (3 : Int) = k := fun e => h e.symm
      simp [cnt, workN, h, h']
theorem srcs_len (l : List Bs) : (srcs l).nodes.length = l.length ∧ (srcs l).cur.length = l.length ∧ ∀ k, cnt k (srcs l).nodes = if k = 1 then l.length else 0 := by
  suffices h : ∀ (l : List Bs) (d : Desk), (l.foldl Desk.src d).nodes.length = d.nodes.length + l.length ∧ (l.foldl Desk.src d).cur.length = d.cur.length + l.length ∧ ∀ k, cnt k (l.foldl Desk.src d).nodes = cnt k d.nodes + if k = 1 then l.length else 0 by
    have := h l ⟨[], []⟩
    simpa [srcs, cnt] using this
  intro l
  induction l with
  | nil => intro d; simp
  | cons f l ih =>
    intro d
    obtain ⟨h1, h2, h3⟩ := ih (d.src f)
    refine ⟨?_, ?_, fun k => ?_⟩
    · rw [List.foldl_cons, h1]; simp [Desk.src]; omega
    · rw [List.foldl_cons, h2]; simp [Desk.src]; omega
    · rw [List.foldl_cons, h3]
      simp only [Desk.src, cnt_snoc, srcN, List.length_cons]
      by_cases h : k = 1
      · subst h; simp; omega
      · have h' : ¬ (1 : Int) = k := fun e => h e.symm
        simp [h, h']
/-- All Splits are so wide. -/
def SplitsW (wide : Int) (l : List Node) : Prop := ∀ n ∈ l, n.kind = 2 → n.wide = wide
/-- A desk at work, `i` commands behind. -/
structure DeskOK (l : LineS) (wide : Int) (i : Nat) (d : Desk) : Prop where
  len : d.nodes.length ≤ 5 + 7 * i
  cur : d.cur.length = 1 ∨ (d.cur.length : Int) = wide
  c1 : cnt 1 d.nodes = l.frm.length
  c5 : cnt 5 d.nodes = 0
  c3 : (cnt 3 d.nodes : Int) = wide * i
  c2 : wide = 1 → cnt 2 d.nodes = 0
  sp : SplitsW wide d.nodes
theorem desk_start {l : LineS} {wide : Int} (h : 1 ≤ l.frm.length ∧ l.frm.length ≤ 4) : DeskOK l wide 0 (srcs l.frm).behind := by
  obtain ⟨h1, h2, h3⟩ := srcs_len l.frm
  have hsp : SplitsW wide (srcs l.frm).nodes := by
    intro n hn hk
    have := h3 2
    simp at this
    unfold cnt at this
    rw [List.length_eq_zero_iff, List.filter_eq_nil_iff] at this
    exact absurd hk (by simpa using this n hn)
  unfold Desk.behind
  split
  · refine ⟨by simp; omega, .inl rfl, ?_, ?_, ?_, ?_, ?_⟩ <;> simp only [cnt_snoc, h3, joinN]
    · simp
    · simp
    · simp
    · simp
    · intro n hn hk
      rcases List.mem_append.1 hn with hn | hn
      · exact hsp n hn hk
      · simp at hn; subst hn; simp [joinN] at hk
  · refine ⟨by omega, .inl (by omega), ?_, ?_, ?_, ?_, hsp⟩ <;> simp only [h3]
    · simp
    · simp
    · simp
    · simp
theorem desk_wide {l : LineS} {wide : Int} {i : Nat} {d : Desk} (h : DeskOK l wide i d) (hw : 1 ≤ wide ∧ wide ≤ 5) : ((d.wide wide).cur.length : Int) = wide ∧ (d.wide wide).nodes.length ≤ 6 + 7 * i ∧ cnt 1 (d.wide wide).nodes = l.frm.length ∧ cnt 5 (d.wide wide).nodes = 0 ∧ (cnt 3 (d.wide wide).nodes : Int) = wide * i ∧ (wide = 1 → cnt 2 (d.wide wide).nodes = 0) ∧ SplitsW wide (d.wide wide).nodes := by
  have hl := h.len
  have hc := h.cur
  unfold Desk.wide
  split
  · refine ⟨by omega, by omega, h.c1, h.c5, h.c3, h.c2, h.sp⟩
  · refine ⟨by rw [ports_len]; omega, by simp; omega, ?_, ?_, ?_, ?_, ?_⟩
    · simp [cnt_snoc, splitN, h.c1]
    · simp [cnt_snoc, splitN, h.c5]
    · simp [cnt_snoc, splitN, h.c3]
    · intro h1; omega
    · intro n hn hk
      rcases List.mem_append.1 hn with hn | hn
      · exact h.sp n hn hk
      · simp at hn; subst hn; rfl
theorem desk_step {l : LineS} {wide : Int} {i : Nat} {d : Desk} (h : DeskOK l wide i d) (hw : 1 ≤ wide ∧ wide ≤ 5) (c : Cmd) : DeskOK l wide (i + 1) (d.step wide c) := by
  obtain ⟨h1, h2, h3, h4, h5, h6, h7⟩ := desk_wide h hw
  unfold Desk.step
  generalize d.wide wide = e at *
  have hw1 : ∀ k, cnt k (e.work c).nodes = cnt k e.nodes + if k = 3 then e.cur.length else 0 := fun k => by
    simp only [Desk.work, cnt_append, cnt_work]
  have hsp : SplitsW wide (e.work c).nodes := by
    intro n hn hk
    rcases List.mem_append.1 hn with hn | hn
    · exact h7 n hn hk
    · obtain ⟨p, _, rfl⟩ := List.mem_map.1 hn
      simp [workN] at hk
  have hlen : (e.work c).nodes.length = e.nodes.length + e.cur.length := by simp [Desk.work]
  have hcur : (e.work c).cur.length = e.cur.length := by simp [Desk.work, outs_len]
  have h3w : (cnt 3 (e.work c).nodes : Int) = wide * ((i + 1 : Nat) : Int) := by
    have := hw1 3
    simp only [if_true] at this
    rw [this, Int.natCast_add, h5, h1, Int.natCast_add, Int.mul_add]
    simp
  split
  · refine ⟨by omega, .inr (by omega), by simpa [h3] using hw1 1, by simpa [h4] using hw1 5, h3w, fun e1 => by simpa [h6 e1] using hw1 2, hsp⟩
  · refine ⟨by simp [Desk.fin]; omega, .inl rfl, ?_, ?_, ?_, ?_, ?_⟩
    · simp [Desk.fin, cnt_snoc, joinN, hw1, h3]
    · simp [Desk.fin, cnt_snoc, joinN, hw1, h4]
    · have : cnt 3 ((e.work c).fin c).nodes = cnt 3 (e.work c).nodes := by simp [Desk.fin, cnt_snoc, joinN]
      rw [this]; exact h3w
    · intro e1; simp [Desk.fin, cnt_snoc, joinN, hw1, h6 e1]
    · intro n hn hk
      rcases List.mem_append.1 hn with hn | hn
      · exact hsp n hn hk
      · simp at hn; subst hn; simp [joinN] at hk
theorem steps_ok {l : LineS} {wide : Int} (h : 1 ≤ l.frm.length ∧ l.frm.length ≤ 4) (hw : 1 ≤ wide ∧ wide ≤ 5) (i : Nat) (hi : i ≤ l.cmds.length) : DeskOK l wide i (steps wide (srcs l.frm).behind (l.cmds.take i)) := by
  induction i with
  | zero => simpa [steps] using desk_start h
  | succ i ih =>
    rw [steps_take (by omega)]
    exact desk_step (ih (by omega)) hw _
theorem plan_shape {l : LineS} {wide : Int} (h : 1 ≤ l.frm.length ∧ l.frm.length ≤ 4) (hw : 1 ≤ wide ∧ wide ≤ 5) : cnt 1 (planNodes l wide) = l.frm.length ∧ cnt 5 (planNodes l wide) = 1 ∧ (cnt 3 (planNodes l wide) : Int) = wide * l.cmds.length ∧ (wide = 1 → cnt 2 (planNodes l wide) = 0) ∧ SplitsW wide (planNodes l wide) := by
  have D := steps_ok h hw l.cmds.length (Nat.le_refl _)
  rw [List.take_length] at D
  unfold planNodes planDesk
  generalize steps wide (srcs l.frm).behind l.cmds = d at *
  have hb : ∀ k, k ≠ 4 → cnt k d.behind.nodes = cnt k d.nodes := fun k hk => by
    unfold Desk.behind
    split
    · have h' : ¬ (4 : Int) = k := fun e => hk e.symm
      simp [cnt_snoc, joinN, h']
    · rfl
  have hsp : SplitsW wide d.behind.nodes := by
    unfold Desk.behind
    split
    · intro n hn hk
      rcases List.mem_append.1 hn with hn | hn
      · exact D.sp n hn hk
      · simp at hn; subst hn; simp [joinN] at hk
    · exact D.sp
  refine ⟨?_, ?_, ?_, ?_, ?_⟩
  · simp [cnt_snoc, sinkN, hb, D.c1]
  · simp [cnt_snoc, sinkN, hb, D.c5]
  · simp [cnt_snoc, sinkN, hb, D.c3]
  · intro e; simp [cnt_snoc, sinkN, hb, D.c2 e]
  · intro n hn hk
    rcases List.mem_append.1 hn with hn | hn
    · exact hsp n hn hk
    · simp at hn; subst hn; simp [sinkN] at hk
end Gp
