/- A calculus of what functions come to, part d: what is said holds in every world; conditions stand in each theorem. -/
import Derived.HandedShaped
import Derived.LaidMore
import Derived.Lib.AtoiAllCases
import Derived.Lib.IndexBytes
import Derived.Lib.IndexLaws
import Derived.Lib.ItoaLen
import Derived.Lib.ItoaMem
import Derived.Lib.ItoaNum
import Derived.Lib.Join
import Derived.Lib.LaidTab
import Derived.Lib.Replace
import Derived.Lib.SlTrimSet
import Derived.Lib.SlicesCompact
import Derived.Lib.SplitLaws
import Derived.Shelf.Vars
import Derived.Sort.EncStr
import Derived.Sort.Grow
import Derived.Sort.OwnSorted
import Derived.Sort.Walk0
import Derived.Stop.LaidErr
import Derived.Test.YtffljdmmambdjabGreatDoorVc
set_option linter.unusedVariables false
set_option linter.unusedSimpArgs false
set_option linter.unusedSectionVars false
section PartP1
/-! Lines, in plain words. -/
namespace Gp
abbrev Bs := List UInt8
/-- Lines, each with an end. -/
def put : List Bs → Bs
  | [] => []
  | s :: r => s ++ 10 :: put r
def lineGo : Bs → Bs → List Bs
  | acc, [] => if acc = [] then [] else [acc]
  | acc, c :: r => if c = 10 then acc :: lineGo [] r else lineGo (acc ++ [c]) r
/-- Lines of bytes. -/
def linesOf (b : Bs) : List Bs := lineGo [] b
def whole (b : Bs) : Bs := put (linesOf b)
def NoNl (l : List Bs) : Prop := ∀ s ∈ l, (10 : UInt8) ∉ s
theorem put_append (a b : List Bs) : put (a ++ b) = put a ++ put b := by
  induction a with
  | nil => rfl
  | cons s r ih => simp [put, ih]
theorem put_snoc (l : List Bs) (s : Bs) : put (l ++ [s]) = put l ++ (s ++ [10]) := by
  rw [put_append]; rfl
theorem put_take_succ {l : List Bs} {i : Nat} (h : i < l.length) : put (l.take (i + 1)) = put (l.take i) ++ (l[i] ++ [10]) := by
  rw [List.take_succ_eq_append_getElem h, put_snoc]
theorem put_take_le (l : List Bs) (i : Nat) : (put (l.take i)).length ≤ (put l).length := by
  have := congrArg (fun a => (put a).length) (List.take_append_drop i l)
  simp only [put_append, List.length_append] at this
  omega
/-- The first line feed. -/
theorem nl_cases (b : Bs) : (10 : UInt8) ∉ b ∨ ∃ a r, b = a ++ 10 :: r ∧ (10 : UInt8) ∉ a := by
  induction b with
  | nil => exact .inl (by simp)
  | cons c b ih =>
    by_cases h : c = 10
    · subst h
      exact .inr ⟨[], b, rfl, by simp⟩
    · rcases ih with ih | ⟨a, r, rfl, ha⟩
      · exact .inl (by simp [ih, Ne.symm h])
      · exact .inr ⟨c :: a, r, rfl, by simp [ha, Ne.symm h]⟩
theorem lineGo_nl {a : Bs} (h : (10 : UInt8) ∉ a) (r : Bs) : ∀ acc, lineGo acc (a ++ 10 :: r) = (acc ++ a) :: linesOf r := by
  induction a with
  | nil => intro acc; simp [lineGo, linesOf]
  | cons c a ih =>
    intro acc
    simp only [List.mem_cons, not_or] at h
    show lineGo acc (c :: (a ++ 10 :: r)) = _
    unfold lineGo
    rw [if_neg (fun e => h.1 e.symm), ih h.2]
    simp
theorem lineGo_no {a : Bs} (h : (10 : UInt8) ∉ a) : ∀ acc, lineGo acc a = if acc ++ a = [] then [] else [acc ++ a] := by
  induction a with
  | nil => intro acc; simp [lineGo]
  | cons c a ih =>
    intro acc
    simp only [List.mem_cons, not_or] at h
    unfold lineGo
    rw [if_neg (fun e => h.1 e.symm), ih h.2]
    simp
theorem linesOf_nl {a : Bs} (h : (10 : UInt8) ∉ a) (r : Bs) : linesOf (a ++ 10 :: r) = a :: linesOf r := by
  unfold linesOf
  rw [lineGo_nl h]; rfl
theorem linesOf_no {a : Bs} (h : (10 : UInt8) ∉ a) (h0 : a ≠ []) : linesOf a = [a] := by
  unfold linesOf
  rw [lineGo_no h]; simp [h0]
theorem linesOf_nil : linesOf [] = [] := rfl
theorem linesOf_append {l : List Bs} (h : NoNl l) (b : Bs) : linesOf (put l ++ b) = l ++ linesOf b := by
  induction l with
  | nil => rfl
  | cons s r ih =>
    have := ih (fun x hx => h x (by simp [hx]))
    show linesOf (s ++ 10 :: put r ++ b) = _
    rw [List.append_assoc, List.cons_append, linesOf_nl (h s (by simp)), this]
    rfl
theorem linesOf_put {l : List Bs} (h : NoNl l) : linesOf (put l) = l := by
  have := linesOf_append h []
  simpa [linesOf_nil] using this
/-- By the first line feed. -/
theorem line_ind {P : Bs → Prop} (h0 : P []) (h1 : ∀ a, (10 : UInt8) ∉ a → a ≠ [] → P a) (h2 : ∀ a r, (10 : UInt8) ∉ a → P r → P (a ++ 10 :: r)) : ∀ b, P b := by
  intro b
  generalize hn : b.length = n
  induction n using Nat.strongRecOn generalizing b with
  | ind n ih =>
    rcases nl_cases b with h | ⟨a, r, rfl, ha⟩
    · by_cases hb : b = []
      · subst hb; exact h0
      · exact h1 b h hb
    · refine h2 a r ha (ih r.length ?_ r rfl)
      subst hn
      simp
      omega
theorem linesOf_no10 (b : Bs) : NoNl (linesOf b) := by
  induction b using line_ind with
  | h0 => intro s hs; cases hs
  | h1 a h h0 => rw [linesOf_no h h0]; intro s hs; simp at hs; subst hs; exact h
  | h2 a r h ih =>
    rw [linesOf_nl h]
    intro s hs
    rcases List.mem_cons.1 hs with rfl | hs
    · exact h
    · exact ih s hs
/-- Is the last line ended? -/
def ended (b : Bs) : Prop := b = [] ∨ b.getLast? = some 10
theorem put_ended (l : List Bs) : ended (put l) := by
  induction l with
  | nil => exact .inl rfl
  | cons s r ih =>
    right
    show (s ++ 10 :: put r).getLast? = _
    rcases ih with h | h
    · rw [h]; simp
    · rw [List.getLast?_append, List.getLast?_cons, h]; simp
theorem whole_eq (b : Bs) : whole b = b ∧ ended b ∨ whole b = b ++ [10] ∧ ¬ ended b := by
  induction b using line_ind with
  | h0 => exact .inl ⟨rfl, .inl rfl⟩
  | h1 a h h0 =>
    right
    unfold whole
    rw [linesOf_no h h0]
    refine ⟨rfl, ?_⟩
    rintro (h1 | h1)
    · exact h0 h1
    · exact h (List.mem_of_getLast? h1)
  | h2 a r h ih =>
    unfold whole at ih ⊢
    rw [linesOf_nl h]
    rcases ih with ⟨e1, e2⟩ | ⟨e1, e2⟩
    · left
      refine ⟨by rw [put, e1], .inr ?_⟩
      rcases e2 with e2 | e2
      · rw [e2]; simp
      · rw [List.getLast?_append, List.getLast?_cons, e2]; simp
    · right
      refine ⟨by rw [put, e1]; simp, ?_⟩
      rintro (h1 | h1)
      · simp at h1
      · apply e2
        by_cases hr : r = []
        · exact .inl hr
        · right
          rw [List.getLast?_append, List.getLast?_cons] at h1
          cases hl : r.getLast? with
          | none => exact absurd (List.getLast?_eq_none_iff.1 hl) hr
          | some x => rw [hl] at h1; simpa using h1
theorem whole_len (b : Bs) : (whole b).length ≤ b.length + 1 := by
  rcases whole_eq b with h | h <;> rw [h.1] <;> simp
theorem put_len {l : List Bs} {n : Nat} (h : (put l).length ≤ n) : l.length ≤ n := by
  induction l generalizing n with
  | nil => simp
  | cons s r ih =>
    simp only [put, List.length_append, List.length_cons] at h ⊢
    have := ih (n := n - 1) (by omega)
    omega
theorem linesOf_len (b : Bs) : (linesOf b).length ≤ b.length := by
  induction b using line_ind with
  | h0 => simp [linesOf_nil]
  | h1 a h h0 =>
    rw [linesOf_no h h0]
    have : a.length ≠ 0 := fun e => h0 (List.length_eq_zero_iff.1 e)
    simp; omega
  | h2 a r h ih => rw [linesOf_nl h]; simp; omega
theorem linesOf_el (b : Bs) : ∀ s ∈ linesOf b, s.length ≤ b.length := by
  induction b using line_ind with
  | h0 => intro s hs; cases hs
  | h1 a h h0 => rw [linesOf_no h h0]; intro s hs; simp at hs; subst hs; exact Nat.le_refl _
  | h2 a r h ih =>
    rw [linesOf_nl h]
    intro s hs
    rcases List.mem_cons.1 hs with rfl | hs
    · simp
    · have := ih s hs
      simp; omega
theorem put_len_el {l : List Bs} {s : Bs} (h : s ∈ l) : s.length + 1 ≤ (put l).length := by
  induction l with
  | nil => cases h
  | cons x r ih =>
    simp only [put, List.length_append, List.length_cons]
    rcases List.mem_cons.1 h with rfl | h
    · omega
    · have := ih h
      omega
/-- Cut at the first line feed. -/
def cutNl (b : Bs) : Bs × Bs × Bool := (b.takeWhile (· != 10), (b.dropWhile (· != 10)).tail, b.contains 10)
theorem cutNl_no {b : Bs} (h : (10 : UInt8) ∉ b) : cutNl b = (b, [], false) := by
  have h1 : b.takeWhile (· != 10) = b := by
    have := List.takeWhile_append_of_pos (p := (· != (10 : UInt8))) (l₁ := b) (l₂ := []) (fun x hx => by
      have : x ≠ 10 := fun e => h (e ▸ hx)
      simpa using this)
    simpa using this
  have h2 : b.dropWhile (· != 10) = [] := by
    have := List.takeWhile_append_dropWhile (p := (· != (10 : UInt8))) (l := b)
    rw [h1] at this
    simpa using this
  unfold cutNl
  rw [h1, h2]
  simpa using h
theorem cutNl_nl {a : Bs} (h : (10 : UInt8) ∉ a) (r : Bs) : cutNl (a ++ 10 :: r) = (a, r, true) := by
  have hp : ∀ x ∈ a, (x != 10) = true := fun x hx => by
    have : x ≠ 10 := fun e => h (e ▸ hx)
    simpa using this
  unfold cutNl
  rw [List.takeWhile_append_of_pos hp, List.dropWhile_append_of_pos hp]
  simp
theorem linesOf_cut {b : Bs} (h : b ≠ []) : linesOf b = (cutNl b).1 :: linesOf (cutNl b).2.1 := by
  rcases nl_cases b with h1 | ⟨a, r, rfl, ha⟩
  · rw [cutNl_no h1, linesOf_no h1 h]; rfl
  · rw [cutNl_nl ha, linesOf_nl ha]
theorem cut_len {b : Bs} (h : b ≠ []) : (cutNl b).2.1.length < b.length ∧ (cutNl b).1.length ≤ b.length := by
  rcases nl_cases b with h1 | ⟨a, r, rfl, ha⟩
  · rw [cutNl_no h1]
    exact ⟨by simpa using List.length_pos_iff.2 h, Nat.le_refl _⟩
  · rw [cutNl_nl ha]
    simp; omega
/-- Parts of whole lines. -/
def part (l : List Bs) (n k : Nat) : List Bs := (l.take ((k + 1) * l.length / n)).drop (k * l.length / n)
def splitLines (l : List Bs) (n : Nat) : List Bs := (List.range n).map fun k => put (part l n k)
theorem part_bnd (m n k : Nat) (hn : 0 < n) : k * m / n + m / n ≤ (k + 1) * m / n ∧ (k + 1) * m / n ≤ k * m / n + m / n + 1 := by
  have e1 := Nat.div_add_mod (k * m) n
  have e2 := Nat.mod_lt (k * m) hn
  have e3 := Nat.div_add_mod m n
  have e4 := Nat.mod_lt m hn
  have e5 := Nat.div_add_mod ((k + 1) * m) n
  have e6 := Nat.mod_lt ((k + 1) * m) hn
  have e7 : (k + 1) * m = k * m + m := by rw [Nat.succ_mul]
  rw [e7] at e5 e6 ⊢
  generalize k * m = a at *
  generalize ha : a / n = qa at *
  generalize hm : m / n = qm at *
  generalize hs : (a + m) / n = qs at *
  generalize a % n = ra at *
  generalize m % n = rm at *
  generalize (a + m) % n = rs at *
  constructor
  · apply Nat.le_of_lt_succ
    apply Nat.lt_of_mul_lt_mul_left (a := n)
    rw [Nat.mul_add, Nat.mul_succ]
    omega
  · apply Nat.le_of_lt_succ
    apply Nat.lt_of_mul_lt_mul_left (a := n)
    have : n * (qa + qm + 1).succ = n * qa + n * qm + n + n := by
      rw [Nat.mul_succ, Nat.mul_add, Nat.mul_add]; omega
    rw [this]
    omega
theorem part_len (l : List Bs) (n k : Nat) (hn : 0 < n) (hk : k < n) : l.length / n ≤ (part l n k).length ∧ (part l n k).length ≤ l.length / n + 1 ∧ (part l n k).length ≤ l.length := by
  have h1 := part_bnd l.length n k hn
  have h2 : (k + 1) * l.length / n ≤ l.length := by
    apply Nat.div_le_of_le_mul
    exact Nat.mul_le_mul_right _ hk
  unfold part
  simp only [List.length_drop, List.length_take]
  generalize k * l.length / n = a at *
  generalize (k + 1) * l.length / n = b at *
  generalize l.length / n = c at *
  omega
theorem part_cat (l : List Bs) (n k : Nat) (hn : 0 < n) : l.take (k * l.length / n) ++ part l n k = l.take ((k + 1) * l.length / n) := by
  have h1 := part_bnd l.length n k hn
  unfold part
  have : l.take (k * l.length / n) = (l.take ((k + 1) * l.length / n)).take (k * l.length / n) := by
    rw [List.take_take]; congr 1
    generalize k * l.length / n = a at *
    generalize (k + 1) * l.length / n = b at *
    generalize l.length / n = c at *
    omega
  rw [this, List.take_append_drop]
theorem part_no {l : List Bs} (h : NoNl l) (n k : Nat) : NoNl (part l n k) := fun s hs => h s (List.mem_of_mem_take (List.mem_of_mem_drop hs))
end Gp
end PartP1
section PartP2
/-! Commands, lines of a script, graphs, plans: in plain words. -/
namespace Gp
structure Cmd where
  kind : Int
  word : Bs
  n : Int
  deriving DecidableEq
structure LineS where
  frm : List Bs
  cmds : List Cmd
  to : Bs
  deriving DecidableEq
structure Port where
  node : Int
  out : Int
  deriving DecidableEq
structure Node where
  kind : Int
  file : Bs
  c : Cmd
  how : Int
  wide : Int
  ins : List Port
  deriving DecidableEq
def wordByte (c : UInt8) : Bool := (decide (97 ≤ c.toNat) && decide (c.toNat ≤ 122)) || (decide (48 ≤ c.toNat) && decide (c.toNat ≤ 57))
def isWord (s : Bs) : Bool := decide (s ≠ []) && decide (s.length ≤ 12) && s.all wordByte
def useWord (c : Cmd) : Bool := decide (c.kind = 1) || decide (c.kind = 2) || decide (c.kind = 3)
def useN (c : Cmd) : Bool := decide (c.kind = 4) || decide (c.kind = 9) || decide (c.kind = 10)
def checkCmd (c : Cmd) : Int :=
  if c.kind < 1 ∨ 10 < c.kind then 4
  else if (useWord c = false ∧ c.word ≠ []) ∨ (useN c = false ∧ c.n ≠ 0) then 4
  else if useN c = true ∧ (c.n < 1 ∨ 1000 < c.n) then 3
  else if (useWord c = true ∧ isWord c.word = false) ∨ (c.kind = 3 ∧ c.word.length ≠ 2) then 1
  else 0
def firstBad : List Cmd → Int
  | [] => 0
  | c :: r => if checkCmd c = 0 then firstBad r else checkCmd c
def checkLine (l : LineS) : Int :=
  if l.frm.length = 0 ∨ 4 < l.frm.length ∨ 6 < l.cmds.length then 2
  else if (l.frm ++ [l.to]).all isWord = false then 1
  else firstBad l.cmds
def each (c : Cmd) : Bool := decide (1 ≤ c.kind) && decide (c.kind ≤ 5)
def howFor (c : Cmd) : Int := if c.kind = 6 then 2 else if c.kind = 8 then 3 else if c.kind = 7 ∨ c.kind = 9 ∨ c.kind = 10 then 4 else 1
theorem firstBad_at : ∀ {l : List Cmd}, firstBad l = 0 → ∀ c ∈ l, checkCmd c = 0
  | [], h, c, hc => by cases hc
  | c :: r, h, x, hx => by
    unfold firstBad at h
    split at h
    · rename_i h1
      rcases List.mem_cons.1 hx with rfl | hx
      · exact h1
      · exact firstBad_at h x hx
    · rename_i h1; exact absurd h h1
/-! ### Plans -/
def zCmd : Cmd := ⟨0, [], 0⟩
def srcN (f : Bs) : Node := ⟨1, f, zCmd, 0, 0, []⟩
def splitN (w : Int) (ins : List Port) : Node := ⟨2, [], zCmd, 0, w, ins⟩
def workN (c : Cmd) (ins : List Port) : Node := ⟨3, [], c, 0, 0, ins⟩
def joinN (how : Int) (c : Cmd) (ins : List Port) : Node := ⟨4, [], c, how, 0, ins⟩
def sinkN (f : Bs) (ins : List Port) : Node := ⟨5, f, zCmd, 0, 0, ins⟩
structure Desk where
  nodes : List Node
  cur : List Port
def Desk.src (d : Desk) (f : Bs) : Desk := ⟨d.nodes ++ [srcN f], d.cur ++ [⟨d.nodes.length, 0⟩]⟩
def Desk.behind (d : Desk) : Desk := if 1 < d.cur.length then ⟨d.nodes ++ [joinN 1 zCmd d.cur], [⟨d.nodes.length, 0⟩]⟩ else d
def ports (i : Int) (n : Nat) : List Port := (List.range n).map fun (k : Nat) => ⟨i, (k : Int)⟩
def outs (i : Int) (n : Nat) : List Port := (List.range n).map fun (k : Nat) => ⟨i + (k : Int), 0⟩
def Desk.wide (d : Desk) (n : Int) : Desk := if 1 < d.cur.length ∨ n = 1 then d else ⟨d.nodes ++ [splitN n d.cur], ports d.nodes.length n.toNat⟩
def Desk.work (d : Desk) (c : Cmd) : Desk := ⟨d.nodes ++ d.cur.map fun p => workN c [p], outs d.nodes.length d.cur.length⟩
def Desk.fin (d : Desk) (c : Cmd) : Desk := ⟨d.nodes ++ [joinN (howFor c) (if howFor c = 4 then c else zCmd) d.cur], [⟨d.nodes.length, 0⟩]⟩
def Desk.step (wide : Int) (d : Desk) (c : Cmd) : Desk := if each c = true ∨ wide = 1 then (d.wide wide).work c else ((d.wide wide).work c).fin c
def srcs (l : List Bs) : Desk := l.foldl Desk.src ⟨[], []⟩
def steps (wide : Int) (d : Desk) (l : List Cmd) : Desk := l.foldl (Desk.step wide) d
def planDesk (l : LineS) (wide : Int) : Desk := (steps wide (srcs l.frm).behind l.cmds).behind
def planNodes (l : LineS) (wide : Int) : List Node := (planDesk l wide).nodes ++ [sinkN l.to (planDesk l wide).cur]
def plan (l : LineS) (wide : Int) : List Node × Int :=
  if checkLine l ≠ 0 then ([], checkLine l) else if wide < 1 ∨ 5 < wide then ([], 3) else (planNodes l wide, 0)
theorem ports_len (i : Int) (n : Nat) : (ports i n).length = n := by simp [ports]
theorem outs_len (i : Int) (n : Nat) : (outs i n).length = n := by simp [outs]
theorem ports_succ (i : Int) (n : Nat) : ports i (n + 1) = ports i n ++ [⟨i, (n : Int)⟩] := by simp [ports, List.range_succ]
theorem outs_succ (i : Int) (n : Nat) : outs i (n + 1) = outs i n ++ [⟨i + (n : Int), 0⟩] := by simp [outs, List.range_succ]
theorem srcs_take {l : List Bs} {i : Nat} (h : i < l.length) : srcs (l.take (i + 1)) = (srcs (l.take i)).src l[i] := by
  unfold srcs
  rw [List.take_succ_eq_append_getElem h, List.foldl_append]
  rfl
theorem steps_take {w : Int} {d : Desk} {l : List Cmd} {i : Nat} (h : i < l.length) : steps w d (l.take (i + 1)) = (steps w d (l.take i)).step w l[i] := by
  unfold steps
  rw [List.take_succ_eq_append_getElem h, List.foldl_append]
  rfl
/-- How many nodes are of a kind. -/
def cnt (k : Int) (l : List Node) : Nat := (l.filter fun n => decide (n.kind = k)).length
theorem cnt_append (k : Int) (a b : List Node) : cnt k (a ++ b) = cnt k a + cnt k b := by simp [cnt]
theorem cnt_snoc (k : Int) (a : List Node) (n : Node) : cnt k (a ++ [n]) = cnt k a + (if n.kind = k then 1 else 0) := by
  rw [cnt_append]
  by_cases h : n.kind = k <;> simp [cnt, h]
theorem cnt_work (k : Int) (c : Cmd) (l : List Port) : cnt k (l.map fun p => workN c [p]) = if k = 3 then l.length else 0 := by
  induction l with
  | nil => simp [cnt]
  | cons p l ih =>
    rw [List.map_cons, show (workN c [p] :: l.map fun p => workN c [p]) = [workN c [p]] ++ l.map (fun p => workN c [p]) from rfl, cnt_append, ih]
    by_cases h : k = 3
    · subst h; simp [cnt, workN]; omega
    · have h' : ¬ (3 : Int) = k := fun e => h e.symm
      simp [cnt, workN, h, h']
theorem srcs_len (l : List Bs) : (srcs l).nodes.length = l.length ∧ (srcs l).cur.length = l.length ∧ ∀ k, cnt k (srcs l).nodes = if k = 1 then l.length else 0 := by
  suffices h : ∀ (l : List Bs) (d : Desk), (l.foldl Desk.src d).nodes.length = d.nodes.length + l.length ∧ (l.foldl Desk.src d).cur.length = d.cur.length + l.length ∧ ∀ k, cnt k (l.foldl Desk.src d).nodes = cnt k d.nodes + if k = 1 then l.length else 0 by
    have := h l ⟨[], []⟩
    simpa [srcs, cnt] using this
  intro l
  induction l with
  | nil => intro d; simp
  | cons f l ih =>
    intro d
    obtain ⟨h1, h2, h3⟩ := ih (d.src f)
    refine ⟨?_, ?_, fun k => ?_⟩
    · rw [List.foldl_cons, h1]; simp [Desk.src]; omega
    · rw [List.foldl_cons, h2]; simp [Desk.src]; omega
    · rw [List.foldl_cons, h3]
      simp only [Desk.src, cnt_snoc, srcN, List.length_cons]
      by_cases h : k = 1
      · subst h; simp; omega
      · have h' : ¬ (1 : Int) = k := fun e => h e.symm
        simp [h, h']
/-- All Splits are so wide. -/
def SplitsW (wide : Int) (l : List Node) : Prop := ∀ n ∈ l, n.kind = 2 → n.wide = wide
/-- A desk at work, `i` commands behind. -/
structure DeskOK (l : LineS) (wide : Int) (i : Nat) (d : Desk) : Prop where
  len : d.nodes.length ≤ 5 + 7 * i
  cur : d.cur.length = 1 ∨ (d.cur.length : Int) = wide
  c1 : cnt 1 d.nodes = l.frm.length
  c5 : cnt 5 d.nodes = 0
  c3 : (cnt 3 d.nodes : Int) = wide * i
  c2 : wide = 1 → cnt 2 d.nodes = 0
  sp : SplitsW wide d.nodes
theorem desk_start {l : LineS} {wide : Int} (h : 1 ≤ l.frm.length ∧ l.frm.length ≤ 4) : DeskOK l wide 0 (srcs l.frm).behind := by
  obtain ⟨h1, h2, h3⟩ := srcs_len l.frm
  have hsp : SplitsW wide (srcs l.frm).nodes := by
    intro n hn hk
    have := h3 2
    simp at this
    unfold cnt at this
    rw [List.length_eq_zero_iff, List.filter_eq_nil_iff] at this
    exact absurd hk (by simpa using this n hn)
  unfold Desk.behind
  split
  · refine ⟨by simp; omega, .inl rfl, ?_, ?_, ?_, ?_, ?_⟩ <;> simp only [cnt_snoc, h3, joinN]
    · simp
    · simp
    · simp
    · simp
    · intro n hn hk
      rcases List.mem_append.1 hn with hn | hn
      · exact hsp n hn hk
      · simp at hn; subst hn; simp [joinN] at hk
  · refine ⟨by omega, .inl (by omega), ?_, ?_, ?_, ?_, hsp⟩ <;> simp only [h3]
    · simp
    · simp
    · simp
    · simp
theorem desk_wide {l : LineS} {wide : Int} {i : Nat} {d : Desk} (h : DeskOK l wide i d) (hw : 1 ≤ wide ∧ wide ≤ 5) : ((d.wide wide).cur.length : Int) = wide ∧ (d.wide wide).nodes.length ≤ 6 + 7 * i ∧ cnt 1 (d.wide wide).nodes = l.frm.length ∧ cnt 5 (d.wide wide).nodes = 0 ∧ (cnt 3 (d.wide wide).nodes : Int) = wide * i ∧ (wide = 1 → cnt 2 (d.wide wide).nodes = 0) ∧ SplitsW wide (d.wide wide).nodes := by
  have hl := h.len
  have hc := h.cur
  unfold Desk.wide
  split
  · refine ⟨by omega, by omega, h.c1, h.c5, h.c3, h.c2, h.sp⟩
  · refine ⟨by rw [ports_len]; omega, by simp; omega, ?_, ?_, ?_, ?_, ?_⟩
    · simp [cnt_snoc, splitN, h.c1]
    · simp [cnt_snoc, splitN, h.c5]
    · simp [cnt_snoc, splitN, h.c3]
    · intro h1; omega
    · intro n hn hk
      rcases List.mem_append.1 hn with hn | hn
      · exact h.sp n hn hk
      · simp at hn; subst hn; rfl
theorem desk_step {l : LineS} {wide : Int} {i : Nat} {d : Desk} (h : DeskOK l wide i d) (hw : 1 ≤ wide ∧ wide ≤ 5) (c : Cmd) : DeskOK l wide (i + 1) (d.step wide c) := by
  obtain ⟨h1, h2, h3, h4, h5, h6, h7⟩ := desk_wide h hw
  unfold Desk.step
  generalize d.wide wide = e at *
  have hw1 : ∀ k, cnt k (e.work c).nodes = cnt k e.nodes + if k = 3 then e.cur.length else 0 := fun k => by
    simp only [Desk.work, cnt_append, cnt_work]
  have hsp : SplitsW wide (e.work c).nodes := by
    intro n hn hk
    rcases List.mem_append.1 hn with hn | hn
    · exact h7 n hn hk
    · obtain ⟨p, _, rfl⟩ := List.mem_map.1 hn
      simp [workN] at hk
  have hlen : (e.work c).nodes.length = e.nodes.length + e.cur.length := by simp [Desk.work]
  have hcur : (e.work c).cur.length = e.cur.length := by simp [Desk.work, outs_len]
  have h3w : (cnt 3 (e.work c).nodes : Int) = wide * ((i + 1 : Nat) : Int) := by
    have := hw1 3
    simp only [if_true] at this
    rw [this, Int.natCast_add, h5, h1, Int.natCast_add, Int.mul_add]
    simp
  split
  · refine ⟨by omega, .inr (by omega), by simpa [h3] using hw1 1, by simpa [h4] using hw1 5, h3w, fun e1 => by simpa [h6 e1] using hw1 2, hsp⟩
  · refine ⟨by simp [Desk.fin]; omega, .inl rfl, ?_, ?_, ?_, ?_, ?_⟩
    · simp [Desk.fin, cnt_snoc, joinN, hw1, h3]
    · simp [Desk.fin, cnt_snoc, joinN, hw1, h4]
    · have : cnt 3 ((e.work c).fin c).nodes = cnt 3 (e.work c).nodes := by simp [Desk.fin, cnt_snoc, joinN]
      rw [this]; exact h3w
    · intro e1; simp [Desk.fin, cnt_snoc, joinN, hw1, h6 e1]
    · intro n hn hk
      rcases List.mem_append.1 hn with hn | hn
      · exact hsp n hn hk
      · simp at hn; subst hn; simp [joinN] at hk
theorem steps_ok {l : LineS} {wide : Int} (h : 1 ≤ l.frm.length ∧ l.frm.length ≤ 4) (hw : 1 ≤ wide ∧ wide ≤ 5) (i : Nat) (hi : i ≤ l.cmds.length) : DeskOK l wide i (steps wide (srcs l.frm).behind (l.cmds.take i)) := by
  induction i with
  | zero => simpa [steps] using desk_start h
  | succ i ih =>
    rw [steps_take (by omega)]
    exact desk_step (ih (by omega)) hw _
theorem plan_shape {l : LineS} {wide : Int} (h : 1 ≤ l.frm.length ∧ l.frm.length ≤ 4) (hw : 1 ≤ wide ∧ wide ≤ 5) : cnt 1 (planNodes l wide) = l.frm.length ∧ cnt 5 (planNodes l wide) = 1 ∧ (cnt 3 (planNodes l wide) : Int) = wide * l.cmds.length ∧ (wide = 1 → cnt 2 (planNodes l wide) = 0) ∧ SplitsW wide (planNodes l wide) := by
  have D := steps_ok h hw l.cmds.length (Nat.le_refl _)
  rw [List.take_length] at D
  unfold planNodes planDesk
  generalize steps wide (srcs l.frm).behind l.cmds = d at *
  have hb : ∀ k, k ≠ 4 → cnt k d.behind.nodes = cnt k d.nodes := fun k hk => by
    unfold Desk.behind
    split
    · have h' : ¬ (4 : Int) = k := fun e => hk e.symm
      simp [cnt_snoc, joinN, h']
    · rfl
  have hsp : SplitsW wide d.behind.nodes := by
    unfold Desk.behind
    split
    · intro n hn hk
      rcases List.mem_append.1 hn with hn | hn
      · exact D.sp n hn hk
      · simp at hn; subst hn; simp [joinN] at hk
    · exact D.sp
  refine ⟨?_, ?_, ?_, ?_, ?_⟩
  · simp [cnt_snoc, sinkN, hb, D.c1]
  · simp [cnt_snoc, sinkN, hb, D.c5]
  · simp [cnt_snoc, sinkN, hb, D.c3]
  · intro e; simp [cnt_snoc, sinkN, hb, D.c2 e]
  · intro n hn hk
    rcases List.mem_append.1 hn with hn | hn
    · exact hsp n hn hk
    · simp at hn; subst hn; simp [sinkN] at hk
end Gp
end PartP2
section PartEnc
/-! What the program's data read as. -/
namespace Gv
open Go Gp
def blV (l : List UInt8) : V := .sl byteV l
def idxB (l : List UInt8) (c : UInt8) : Int := Lib.indexByte l c
def intV (n : Int) : V := .int .i64 n
def cmdV (c : Cmd) : V := .agg [.int .i64 c.kind, .str c.word, .int .i64 c.n]
noncomputable def lineV (l : LineS) : V := .agg [.sl strV l.frm, .sl cmdV l.cmds, .str l.to]
def portV (p : Port) : V := .agg [.int .i64 p.node, .int .i64 p.out]
def nodeV (n : Gp.Node) : V := .agg [.int .i64 n.kind, .str n.file, .int .i64 n.c.kind, .str n.c.word, .int .i64 n.c.n, .int .i64 n.how, .int .i64 n.wide, .sl portV n.ins]
structure PipeS where
  b : List UInt8
  room : Int
  closed : Bool
  shut : Bool
def pipeV (p : PipeS) : V := .agg [.sl byteV p.b, .int .i64 p.room, .bool p.closed, .bool p.shut]
/-- A file with its bytes. -/
structure FileS where
  name : Bs
  b : Bs
  deriving DecidableEq
def fileV (f : FileS) : V := .agg [.str f.name, .sl byteV f.b]
end Gv
end PartEnc
section PartAd
/-! The library's words at strings as lists of bytes. -/
namespace Gv
open Go Go.RowKit Gw Gp
variable [Glob]
abbrev ba (s : Bs) : ByteArray := ⟨s.toArray⟩
theorem ba_data (s : Bs) : (ba s).data.toList = s := rfl
theorem ba_size (s : Bs) : (ba s).size = s.length := by simp [ba, ByteArray.size]
theorem str_ba (s : Bs) : Gw.str s = .string (ba s) := rfl
theorem vr_str {m : Mem} {q : Loc} {s : Bs} {u : Value} (h : VR m q (.str s) u) : u = Gw.str s ∧ s.length ≤ MAXL := by
  cases h with | str h => exact ⟨rfl, h⟩
theorem strs_open {w : World} {m : Mem} {q : Loc} {l : List Bs} {u : Value} (h : VR m q (.sl strV l) u) (hm : Sub m w) : ∃ p c, u = .slice p l.length c ∧ l.length ≤ c ∧ c ≤ MAXL ∧
    (l ≠ [] → ∃ b o, p = some ⟨b, o, none⟩ ∧ b < w.heap.size ∧ (∀ (j : Nat) x, l[j]? = some x → w.cell? ⟨b, o + j, none⟩ = some (Gw.str x)) ∧ ∀ x ∈ l, x.length ≤ MAXL) := by
  cases h with
  | @sl0 _ _ _ oa cap hc h0 => exact ⟨oa, cap, rfl, by simp, hc, fun h => absurd rfl h⟩
  | @sl _ _ _ _ b off arr T fz cap k us h1 h2 h3 h4 h5 h6 =>
    refine ⟨_, _, rfl, h1, h2, fun hne => ⟨b, off, rfl, hm.lt h3, fun j x hx => ?_, fun x hx => ?_⟩⟩
    · have hj : j < l.length := (List.getElem?_eq_some_iff.1 hx).1
      have hxe : l[j] = x := (List.getElem?_eq_some_iff.1 hx).2
      have hk : k = 1 := by rw [← h4 j hj]; rfl
      subst hk
      have e := h5 j hj 0 (strV l[j]) (by simp [strV, V.cells])
      have e2 := h6 j hj 0 (strV l[j]) (by simp [strV, V.cells])
      have e3 := (vr_str e2).1
      have hb := hm _ _ h3
      simp only [World.cell?, hb, Option.isSome_none, Bool.false_eq_true, if_false]
      rw [show off + j = off + j * 1 + 0 by omega, e.1, e3, hxe]
    · obtain ⟨j, hj, rfl⟩ := List.getElem_of_mem hx
      exact (vr_str (h6 j hj 0 (strV l[j]) (by simp [strV, V.cells]))).2
/-- A new row of strings. -/
theorem strs_new {w w' : World} {m : Mem} {l : List Bs} {T : TypeId} (hb : w'.heap[w.heap.size]? = some (.cells (l.map Gw.str).toArray T)) (hl : l.length ≤ MAXL) (hx : ∀ x ∈ l, x.length ≤ MAXL) :
    VR (grow m w w') noLoc (.sl strV l) (.slice (some ⟨w.heap.size, 0, none⟩) l.length l.length) := by
  have hc : ∀ j x, l[j]? = some x → ((l.map Gw.str).toArray)[0 + j * 1 + 0]? = some (Gw.str x) := fun j x hx => by
    rw [show 0 + j * 1 + 0 = j by omega, List.getElem?_toArray, List.getElem?_map, hx]; rfl
  refine .sl (k := 1) (off := 0) (fun i j => Gw.str (l.getD i [])) (Nat.le_refl _) hl (show grow m w w' _ = _ by unfold grow; rw [if_neg (by omega)]; exact hb) (fun i h => rfl) (fun i h j v e => ?_) (fun i h j v e => ?_)
  · have hj : j = 0 := by
      rcases Nat.eq_zero_or_pos j with h | h
      · exact h
      · rw [List.getElem?_eq_none (by simp [strV, V.cells]; omega)] at e; cases e
    subst hj
    refine ⟨?_, rfl⟩
    rw [hc i l[i] (List.getElem?_eq_getElem h)]
    simp [h]
  · have hj : j = 0 := by
      rcases Nat.eq_zero_or_pos j with h | h
      · exact h
      · rw [List.getElem?_eq_none (by simp [strV, V.cells]; omega)] at e; cases e
    subst hj
    obtain rfl : V.str l[i] = v := by simpa [strV, V.cells] using e
    have : l.getD i [] = l[i] := by simp [h]
    rw [this]
    exact .str (hx _ (List.getElem_mem h))
theorem splitK_le (sep : Bs) : ∀ (k : Nat) (s : Bs), ∀ x ∈ Lib.splitK sep 0 k s, x.length ≤ s.length
  | 0, s, x, hx => by simp [Lib.splitK] at hx; subst hx; exact Nat.le_refl _
  | k + 1, s, x, hx => by
    unfold Lib.splitK at hx
    split at hx
    · simp at hx; subst hx; exact Nat.le_refl _
    · rcases List.mem_cons.1 hx with rfl | hx
      · simp; omega
      · have := splitK_le sep k _ x hx
        simp at this; omega
theorem split_len (s sep : Bs) (h : 1 ≤ sep.length) : (Lib.split s sep).length = Lib.count s sep + 1 := by
  have h1 := Lib.splitB_all (ba sep) (by rw [ba_size]; exact h) 0 (Lib.count s sep) (ba s) rfl
  have e := congrArg List.length (Lib.splitB_data (ba sep) 0 (Lib.count s sep) (ba s))
  rw [List.length_map, h1] at e
  exact e.symm
theorem split_cells (s sep : Bs) : List.map Value.string (Lib.splitB (ba sep) 0 (Lib.countB (ba s) (ba sep)) (ba s)) = (Lib.split s sep).map Gw.str := by
  have e := Lib.splitB_data (ba sep) 0 (Lib.countB (ba s) (ba sep)) (ba s)
  have e2 : Lib.split s sep = (Lib.splitB (ba sep) 0 (Lib.countB (ba s) (ba sep)) (ba s)).map (·.data.toList) := e.symm
  rw [e2, List.map_map]
  refine List.map_congr_left fun x hx => ?_
  show Value.string x = Value.string ⟨x.data.toList.toArray⟩
  simp
end Gv
end PartAd
section PartAd2
/-! Rows of strings of one's own, sorted and made compact in their place. -/
namespace Gv
open Go Go.RowKit Gw Gp
variable [Glob]
section
variable {w0 : Start} {w w' : World} {m0 R m : Mem} {q : Loc}
theorem put_heap (w : World) {blk off : Nat} (d : Array Bs) {arr : Array Value} {T : TypeId} {fz : Nat × Nat} (h : w.heap[blk]? = some (.cells arr T fz)) (k : Nat) :
    (Go.Sort.putRow Go.Proofs.encStr w blk off d).heap[k]? = if k = blk then some (.cells (Go.Sort.putCells Go.Proofs.encStr off d arr) T fz) else w.heap[k]? := by
  simp only [Go.Sort.putRow, Go.Sort.mapBlock, Array.getElem?_modify]
  by_cases e : blk = k
  · subst e; simp [h, Go.Sort.onCells]
  · rw [if_neg e, if_neg (fun h => e h.symm)]
theorem sorted_world {w w' : World} {n blk : Nat} {d : Array Bs} {os : Array Obj} {arr : Array Value} {T : TypeId} {fz : Nat × Nat} (h : w.heap[blk]? = some (.cells arr T fz)) (hw : w' = Go.Sort.grow (Go.Sort.putRow Go.Proofs.encStr (Go.Sort.ahead w n) blk 0 d) os) :
    Bel [blk] w w' ∧ w'.heap[blk]? = some (.cells (Go.Sort.putCells Go.Proofs.encStr 0 d arr) T fz) := by
  have hp := put_heap (Go.Sort.ahead w n) (blk := blk) (off := 0) d (arr := arr) (T := T) (fz := fz) h
  have hs : (Go.Sort.putRow Go.Proofs.encStr (Go.Sort.ahead w n) blk 0 d).heap.size = w.heap.size := by rw [Go.Sort.size_putRow]; rfl
  have hb := lt_of_heap h
  have hg : ∀ k, k < w.heap.size → w'.heap[k]? = (Go.Sort.putRow Go.Proofs.encStr (Go.Sort.ahead w n) blk 0 d).heap[k]? := fun k hk => by
    rw [hw]
    exact Go.Sort.heap_grow_old _ _ (by rw [hs]; exact hk)
  refine ⟨⟨by rw [hw]; rfl, by rw [hw]; rfl, by rw [hw]; rfl, ?_, fun k hk hx => ?_⟩, ?_⟩
  · rw [hw, Go.Sort.size_grow, hs]; omega
  · rw [hg k hk, hp, if_neg (by simpa using hx)]
    rfl
  · rw [hg blk hb, hp, if_pos rfl]
theorem els_put {l l' : List Bs} {arr : Array Value} {cap : Nat} (ha : arr.size = cap * 1) (hl : l'.length ≤ cap) (hx : ∀ x ∈ l', x.length ≤ MAXL) : ElsR m 1 (l'.map strV) (Go.Sort.putCells Go.Proofs.encStr 0 l'.toArray arr) := fun i x hi => by
  rw [List.getElem?_map] at hi
  obtain ⟨c, hc, rfl⟩ := Option.map_eq_some_iff.1 hi
  have hlt := (List.getElem?_eq_some_iff.1 hc).1
  refine ⟨rfl, fun j v e => ?_⟩
  have hj : j = 0 := by
    rcases Nat.eq_zero_or_pos j with h | h
    · exact h
    · rw [List.getElem?_eq_none (by simp [strV, V.cells]; omega)] at e; cases e
  subst hj
  obtain rfl : V.str c = v := by simpa [strV, V.cells] using e
  refine ⟨Gw.str c, ?_, rfl, .str (hx c (List.mem_of_getElem? hc))⟩
  unfold Go.Sort.putCells
  have h1 : i < arr.size := by omega
  have h2 : i * 1 + 0 = i := by omega
  rw [h2, Array.getElem?_mapIdx, Array.getElem?_eq_getElem h1]
  simp only [Option.map_some]
  have h3 : 0 ≤ i ∧ i < 0 + l'.toArray.size := by simp; omega
  rw [if_pos h3]
  have h4 : l'.toArray[i - 0]! = c := by
    rw [Nat.sub_zero, getElem!_pos _ _ (by simpa using hlt)]
    simpa using (List.getElem?_eq_some_iff.1 hc).2
  rw [h4]
  rfl
theorem putCells_size {d : Array Bs} {arr : Array Value} : (Go.Sort.putCells Go.Proofs.encStr 0 d arr).size = arr.size := by simp [Go.Sort.putCells]
/-- A row of strings of one's own. -/
theorem own_strs {l : List Bs} {u : Value} (C : Cf w0 m0 [.row 1 (l.map strV)] R m q w) (hv : VR m q (.own 0) u) : (u = .slice none 0 0 ∧ l = []) ∨
    ∃ b cap arr T fz, u = .slice (some ⟨b, 0, none⟩) l.length cap ∧ l.length ≤ cap ∧ cap ≤ MAXL ∧ q 0 = some (some b, l.length, cap, 1) ∧ R b = some (.cells arr T fz) ∧ arr.size = cap * 1 ∧ noFz arr.size fz ∧ Go.Sort.Holds Go.Proofs.encStr w b 0 l.toArray ∧ (∀ x ∈ l, x.length ≤ MAXL) := by
  obtain ⟨ob, cap, h1, h2, h3, h4, h5⟩ := C.rok.row 0 _ rfl
  simp only [List.length_map] at h1 h2
  cases hv with
  | own hq =>
    rw [h1] at hq; cases hq
    cases ob with
    | none =>
      left
      have := h4 rfl
      subst this
      obtain rfl : l = [] := List.length_eq_zero_iff.1 (by omega)
      exact ⟨rfl, rfl⟩
    | some b =>
      right
      obtain ⟨arr, T, fz, g1, g2, g3, g4⟩ := h5 b rfl
      have hx : ∀ (i : Nat) (hi : i < l.length), arr[i]? = some (Gw.str l[i]) ∧ l[i].length ≤ MAXL := fun i hi => by
        obtain ⟨u, e1, -, e3⟩ := (g3 i (strV l[i]) (by simp [hi])).2 0 (strV l[i]) (by simp [strV, V.cells])
        have := vr_str e3
        rw [show i * 1 + 0 = i by omega] at e1
        rw [e1, this.1]
        exact ⟨rfl, this.2⟩
      refine ⟨b, cap, arr, T, fz, rfl, h2, h3, h1, g1, g2, g4, fun j hj => ?_, fun x hx' => ?_⟩
      · have hj' : j < l.length := by simpa using hj
        have hb := (C.sit.own _ _ g1).2.1
        have e := (hx j hj').1
        have hlt := (Array.getElem?_eq_some_iff.1 e).1
        refine ⟨?_, ?_⟩
        · simp only [World.cell?, hb, Option.isSome_none, Bool.false_eq_true, if_false, Nat.zero_add]
          rw [e]
          congr 1
          rw [getElem!_pos _ _ (by simpa using hj')]
          simp
          rfl
        · simp only [World.frozen?, hb, Nat.zero_add]
          have := g4 j hlt
          simpa using this
      · obtain ⟨i, hi, rfl⟩ := List.getElem_of_mem hx'
        exact (hx i hi).2
theorem Cf.strs_put {l l' : List Bs} {b cap : Nat} {arr : Array Value} {T : TypeId} {fz : Nat × Nat} (C : Cf w0 m0 [.row 1 (l.map strV)] R m q w) (hq : q 0 = some (some b, l.length, cap, 1)) (hR : R b = some (.cells arr T fz)) (ha : arr.size = cap * 1) (hz : noFz arr.size fz) (hcap : cap ≤ MAXL)
    (hlc : l.length ≤ cap) (hl : l'.length = l.length) (hx : ∀ x ∈ l', x.length ≤ MAXL) (hb : Bel [b] w w') (hh : w'.heap[b]? = some (.cells (Go.Sort.putCells Go.Proofs.encStr 0 l'.toArray arr) T fz)) :
    Cf w0 m0 [.row 1 (l'.map strV)] (R.put b (.cells (Go.Sort.putCells Go.Proofs.encStr 0 l'.toArray arr) T fz)) m q w' := by
  have := C.store (r := 0) (x := .row 1 (l.map strV)) (y := .row 1 (l'.map strV)) rfl rfl hq hR hb hh ?_
  · exact this
  refine ⟨some b, cap, by simpa [hl] using hq, by simpa [hl] using hlc, hcap, (fun h => by cases h), fun b' e => ?_⟩
  cases e
  exact ⟨_, T, fz, by simp [Mem.put], by rw [putCells_size]; exact ha, els_put (l := l) ha (by omega) hx, by rw [putCells_size]; exact hz⟩
end
/-- Sorted. -/
def sortB (l : List Bs) : List Bs := l.mergeSort fun x y => decide (x ≤ y)
omit [Glob] in
theorem sortB_perm (l : List Bs) : (sortB l).Perm l := List.mergeSort_perm l _
omit [Glob] in
theorem sortB_len (l : List Bs) : (sortB l).length = l.length := List.length_mergeSort l
def onceB (l : List Bs) : List Bs := Lib.compact l
omit [Glob] in
theorem onceB_sub (l : List Bs) : ∀ x ∈ onceB l, x ∈ l := fun x hx => by
  unfold onceB Lib.compact Lib.compactUpTo at hx
  obtain ⟨i, hi, rfl⟩ := List.mem_map.1 hx
  have hi2 := (List.mem_filter.1 hi).1
  have hlt : i < l.length := by simpa using hi2
  rw [getElem!_pos _ _ (by simpa using hlt)]
  simp
omit [Glob] in
theorem onceB_len (l : List Bs) : (onceB l).length ≤ l.length := by
  unfold onceB Lib.compact Lib.compactUpTo
  rw [List.length_map]
  refine Nat.le_trans (List.length_filter_le _ _) ?_
  simp
theorem vrl_one {m : Mem} {q : Loc} {v : V} {us : List Value} (h : VRL m q [v] us) : ∃ u, us = [u] ∧ VR m q v u := by
  have hl := h.len
  match us, hl with
  | [u], _ => exact ⟨u, rfl, h.el 0 v u rfl rfl⟩
end Gv
end PartAd2
section PartP3
/-! Commands over lines, in plain words. -/
namespace Gv
open Go Gp
theorem idx_one (a : UInt8) : ∀ s : Bs, (Lib.index s [a] = -1 ∧ a ∉ s) ∨ ∃ p r, s = p ++ a :: r ∧ a ∉ p ∧ Lib.index s [a] = (p.length : Int)
  | [] => .inl ⟨rfl, by simp⟩
  | b :: l => by
    unfold Lib.index
    have e : [a].isPrefixOf (b :: l) = (a == b) := by simp [List.isPrefixOf]
    rw [e]
    by_cases h : a = b
    · subst h
      right
      exact ⟨[], l, rfl, by simp, by simp⟩
    · have hb : (a == b) = false := by simpa using h
      rw [hb]
      rcases idx_one a l with ⟨h1, h2⟩ | ⟨p, r, rfl, h2, h3⟩
      · left
        refine ⟨?_, by simp [h, h2]⟩
        rw [h1]; rfl
      · right
        refine ⟨b :: p, r, rfl, by simp [h, h2], ?_⟩
        rw [h3]
        have : ((p.length : Int) == -1) = false := by simp
        simp only [this, Bool.false_eq_true, if_false, List.length_cons]
        omega
theorem split_no {a : UInt8} {s : Bs} (h : a ∉ s) : Lib.split s [a] = [s] := by
  unfold Lib.split
  rw [Lib.count_one, List.count_eq_zero.2 h]
  rfl
theorem idx_at {a : UInt8} {p : Bs} (h : a ∉ p) (r : Bs) : Lib.index (p ++ a :: r) [a] = (p.length : Int) := by
  rcases idx_one a (p ++ a :: r) with ⟨-, h2⟩ | ⟨p', r', e, h2, h3⟩
  · simp at h2
  · have : p = p' := by
      rcases List.append_eq_append_iff.1 e with ⟨x, hx, hy⟩ | ⟨x, hx, hy⟩
      · cases x with
        | nil => simpa using hx.symm
        | cons c x =>
          simp only [List.cons_append, List.cons.injEq] at hy
          rw [hx, ← hy.1] at h2
          simp at h2
      · cases x with
        | nil => simpa using hx
        | cons c x =>
          simp only [List.cons_append, List.cons.injEq] at hy
          rw [hx, ← hy.1] at h
          simp at h
    rw [h3, this]
theorem split_at {a : UInt8} {p : Bs} (h : a ∉ p) (r : Bs) : Lib.split (p ++ a :: r) [a] = p :: Lib.split r [a] := by
  have hi := idx_at h r
  unfold Lib.split
  have hc : Lib.count (p ++ a :: r) [a] = Lib.count r [a] + 1 := by
    rw [Lib.count_one, Lib.count_one, List.count_append, List.count_eq_zero.2 h]
    simp
  rw [hc, Lib.splitK, hi]
  have : ((p.length : Int) == -1) = false := by simp
  simp only [this, Bool.false_eq_true, if_false, Int.toNat_natCast, Nat.add_zero, List.take_left, List.length_singleton, List.cons.injEq, true_and]
  have e : (p ++ a :: r).drop (p.length + 1) = r := by
    rw [← List.drop_drop]
    simp
  rw [e]
theorem splitK_sz (sep : Bs) : ∀ (k : Nat) (s : Bs), ∀ x ∈ Lib.splitK sep 0 k s, x.length ≤ s.length
  | 0, s, x, hx => by simp [Lib.splitK] at hx; subst hx; exact Nat.le_refl _
  | k + 1, s, x, hx => by
    unfold Lib.splitK at hx
    split at hx
    · simp at hx; subst hx; exact Nat.le_refl _
    · rcases List.mem_cons.1 hx with rfl | hx
      · simp; omega
      · have := splitK_sz sep k _ x hx
        simp at this; omega
theorem split_ne (s sep : Bs) : Lib.split s sep ≠ [] := by
  unfold Lib.split
  generalize Lib.count s sep = k
  cases k with
  | zero => simp [Lib.splitK]
  | succ k => unfold Lib.splitK; split <;> simp
/-- A byte for another. -/
theorem replace_one (a b : UInt8) : ∀ s : Bs, Lib.replaceAll s [a] [b] = s.map fun c => if c = a then b else c := by
  have key : ∀ (k : Nat) (s : Bs), s.count a = k → Lib.replaceK [a] [b] k s = s.map fun c => if c = a then b else c := by
    intro k
    induction k with
    | zero =>
      intro s h
      have hn : a ∉ s := List.count_eq_zero.1 h
      unfold Lib.replaceK
      have : s.map (fun c => if c = a then b else c) = s.map id := List.map_congr_left fun c hc => by
        rw [if_neg (fun e => hn (by rw [← e]; exact hc))]; rfl
      rw [this, List.map_id]
    | succ k ih =>
      intro s h
      rcases idx_one a s with ⟨-, h2⟩ | ⟨p, r, rfl, h2, h3⟩
      · rw [List.count_eq_zero.2 h2] at h; cases h
      · have hr : r.count a = k := by
          rw [List.count_append, List.count_eq_zero.2 h2] at h
          simp at h
          exact h
        rw [Lib.replaceK_hit _ _ _ _ _ h3, List.take_left, List.length_singleton, ← List.drop_drop, List.drop_left]
        simp only [List.drop_succ_cons, List.drop_zero, List.map_append, List.map_cons, if_true]
        rw [ih r hr]
        have : p.map (fun c => if c = a then b else c) = p.map id := List.map_congr_left fun c hc => by
          rw [if_neg (fun e => h2 (by rw [← e]; exact hc))]; rfl
        rw [this, List.map_id]
        simp
  intro s
  unfold Lib.replaceAll Lib.replace
  by_cases h : a = b
  · subst h
    have : s.map (fun c => if c = a then a else c) = s.map id := List.map_congr_left fun c hc => by
      by_cases e : c = a
      · rw [if_pos e, e]; rfl
      · rw [if_neg e]; rfl
    rw [this, List.map_id]
    simp
  · have h1 : (([a] : Bs) == [b]) = false := by simpa using h
    rw [h1]
    simp only [Bool.false_eq_true, if_false]
    have h2 : Lib.replaceNum s [a] (-1) = s.count a := by
      unfold Lib.replaceNum
      rw [if_pos (by omega), Lib.count_one]
    rw [h2]
    exact key _ s rfl
/-! Lines as the document has them. -/
def dropE (l : List Bs) : List Bs := if l.getLast? = some [] then l.dropLast else l
theorem split_lines (b : Bs) : dropE (Lib.split b [10]) = linesOf b := by
  induction b using line_ind with
  | h0 => rfl
  | h1 a h h0 =>
    rw [split_no h, linesOf_no h h0]
    unfold dropE
    rw [if_neg (by simpa using h0)]
  | h2 a r h ih =>
    rw [split_at h, linesOf_nl h, ← ih]
    have hne := split_ne r [10]
    unfold dropE
    rw [List.getLast?_cons_of_ne_nil hne, List.dropLast_cons_of_ne_nil hne]
    split <;> rfl
theorem join_put : ∀ l : List Bs, (if 0 < l.length then Lib.join l [10] ++ [10] else Lib.join l [10]) = put l
  | [] => rfl
  | [s] => by simp [Lib.join, put, List.intercalate]
  | s :: t :: r => by
    have ih := join_put (t :: r)
    simp only [List.length_cons, Nat.zero_lt_succ, if_true] at ih ⊢
    unfold put
    rw [← ih]
    simp [Lib.join, List.intercalate, List.intersperse]
/-! ### What a command does -/
def oneC (c : Cmd) (s : Bs) : Bs × Bool :=
  if c.kind = 1 then (s, Lib.contains s c.word) else if c.kind = 2 then (s, !Lib.contains s c.word)
  else if c.kind = 3 then (Lib.replaceAll s (c.word.take 1) (c.word.drop 1), true)
  else if c.kind = 4 then (if ((Lib.split s [32]).length : Int) < c.n then [] else (Lib.split s [32]).getD (c.n - 1).toNat [], true)
  else (s.reverse, true)
def outC (c : Cmd) (s : Bs) : Option Bs := match oneC c s with | (t, true) => some t | (_, false) => none
def linesC (c : Cmd) (l : List Bs) : List Bs :=
  if c.kind = 6 then sortB l else if c.kind = 7 then onceB l else if c.kind = 8 then [Lib.itoa l.length]
  else if c.kind = 9 then l.take c.n.toNat else if c.kind = 10 then l.drop (l.length - c.n.toNat) else l.filterMap (outC c)
def doC (c : Cmd) (b : Bs) : Bs × Int := if checkCmd c ≠ 0 then ([], checkCmd c) else if 4000 < b.length then ([], 2) else (put (linesC c (linesOf b)), 0)
theorem word2 {c : Cmd} (h : checkCmd c = 0) (h3 : c.kind = 3) : ∃ a b, c.word = [a, b] := by
  have : c.word.length = 2 := by
    unfold checkCmd at h
    repeat' split at h
    all_goals first | (cases h; done) | grind
  match hw : c.word, this with
  | [a, b], _ => exact ⟨a, b, rfl⟩
theorem one_len {c : Cmd} (h : checkCmd c = 0) (s : Bs) : (oneC c s).1.length ≤ s.length := by
  unfold oneC
  split
  · exact Nat.le_refl _
  split
  · exact Nat.le_refl _
  split
  · rename_i h3
    obtain ⟨a, b, e⟩ := word2 h h3
    rw [e]
    show (Lib.replaceAll s [a] [b]).length ≤ _
    rw [replace_one]
    simp
  split
  · dsimp only
    split
    · simp
    · rename_i h4 h5
      by_cases hi : (c.n - 1).toNat < (Lib.split s [32]).length
      · have e : (Lib.split s [32]).getD (c.n - 1).toNat [] = (Lib.split s [32])[(c.n - 1).toNat] := by rw [List.getD_eq_getElem?_getD, List.getElem?_eq_getElem hi]; rfl
        rw [e]
        exact splitK_sz [32] _ s _ (List.getElem_mem hi)
      · have e : (Lib.split s [32]).getD (c.n - 1).toNat [] = [] := by rw [List.getD_eq_getElem?_getD, List.getElem?_eq_none (by omega)]; rfl
        rw [e]
        simp
  · simp
theorem put_sum : ∀ l : List Bs, (put l).length = (l.map fun s => s.length + 1).sum
  | [] => rfl
  | s :: r => by
    unfold put
    simp [put_sum r]
    omega
theorem put_perm {l l' : List Bs} (h : l.Perm l') : (put l).length = (put l').length := by
  rw [put_sum, put_sum]
  exact (h.map _).sum_nat
theorem put_sub {l l' : List Bs} (h : l.Sublist l') : (put l).length ≤ (put l').length := by
  induction h with
  | slnil => exact Nat.le_refl _
  | cons a h ih => simp only [put, List.length_append, List.length_cons]; omega
  | cons_cons a h ih => simp only [put, List.length_append, List.length_cons]; omega
theorem out_len {c : Cmd} (h : checkCmd c = 0) {s t : Bs} (ht : outC c s = some t) : t.length ≤ s.length := by
  have h1 := one_len h s
  unfold outC at ht
  split at ht
  · rename_i u hu
    rw [hu] at h1
    cases ht
    exact h1
  · cases ht
theorem put_filterMap {c : Cmd} (h : checkCmd c = 0) : ∀ l : List Bs, (put (l.filterMap (outC c))).length ≤ (put l).length
  | [] => Nat.le_refl _
  | s :: r => by
    have ih := put_filterMap h r
    rw [List.filterMap_cons]
    split
    · simp only [put, List.length_append, List.length_cons]
      omega
    · rename_i t ht
      have := out_len h ht
      simp only [put, List.length_append, List.length_cons]
      omega
theorem itoa_len (n : Int) (h : -9223372036854775808 ≤ n ∧ n ≤ 9223372036854775807) : (Lib.itoa n).length ≤ 24 := by
  unfold Lib.itoa
  split
  · have := Lib.nDigits_le20 n.natAbs (by omega)
    simp only [List.length_cons, Lib.decDigits_length]
    omega
  · have := Lib.nDigits_le20 n.toNat (by omega)
    rw [Lib.decDigits_length]
    omega
theorem onceB_sublist (l : List Bs) : (onceB l).Sublist l := by
  unfold onceB Lib.compact Lib.compactUpTo
  have e : l = (List.range l.length).map fun i => l.toArray[i]! := by
    refine List.ext_getElem (by simp) fun i h1 h2 => ?_
    simp [h1]
  refine (List.filter_sublist.map _).trans ?_
  rw [← e]
  exact List.Sublist.refl _
theorem linesC_put {c : Cmd} (h : checkCmd c = 0) (l : List Bs) (hl : l.length ≤ 100000) : (put (linesC c l)).length ≤ (put l).length + 30 := by
  unfold linesC
  split
  · rw [put_perm (sortB_perm l)]; omega
  split
  · have := put_sub (onceB_sublist l); omega
  split
  · have := itoa_len l.length ⟨by omega, by omega⟩
    simp only [put, List.length_append, List.length_cons, List.length_nil]
    omega
  split
  · have := put_sub (List.take_sublist c.n.toNat l); omega
  split
  · have := put_sub (List.drop_sublist (l.length - c.n.toNat) l); omega
  · have := put_filterMap h l; omega
theorem sortB_of {l l' : List Bs} (hp : l.Perm l') (hs : l'.Pairwise (· ≤ ·)) : sortB l = l' := by
  have tr : ∀ a b c : Bs, decide (a ≤ b) = true → decide (b ≤ c) = true → decide (a ≤ c) = true := fun a b c h1 h2 => by
    simp only [decide_eq_true_eq] at *
    exact List.le_trans h1 h2
  have tot : ∀ a b : Bs, (decide (a ≤ b) || decide (b ≤ a)) = true := fun a b => by
    simp only [Bool.or_eq_true, decide_eq_true_eq]
    exact List.le_total a b
  have h1 := List.pairwise_mergeSort tr tot l
  refine List.Perm.eq_of_pairwise (le := fun a b : Bs => a ≤ b) ?_ (h1.imp fun h => by simpa using h) hs ((sortB_perm l).trans hp)
  intro a b _ _ h1 h2
  exact List.le_antisymm h1 h2
end Gv
end PartP3
section PartP4
/-! What parts of a command's work come to, in plain words. -/
namespace Gv
open Go Gp
def lsV (l : List Bs) : V := .sl strV l
theorem less_eq (a b : Bs) : Op.bytesLess a b = decide (a < b) := Go.Proofs.bytesLess_eq a b
def keepC (w : Bs) : Cmd := ⟨1, w, 0⟩
def dropC (w : Bs) : Cmd := ⟨2, w, 0⟩
theorem keep_filter (w : Bs) (l : List Bs) : linesC ⟨1, w, 0⟩ l = l.filter fun s => Lib.contains s w := by
  unfold linesC
  simp only [show ¬ (1 : Int) = 6 by decide, show ¬ (1 : Int) = 7 by decide, show ¬ (1 : Int) = 8 by decide, show ¬ (1 : Int) = 9 by decide, show ¬ (1 : Int) = 10 by decide, if_false]
  rw [← List.filterMap_eq_filter]
  congr 1
  funext s
  show (match (s, Lib.contains s w) with | (t, true) => some t | (_, false) => none) = _
  cases h : Lib.contains s w <;> simp [h, Option.guard]
theorem drop_filter (w : Bs) (l : List Bs) : linesC ⟨2, w, 0⟩ l = l.filter fun s => !Lib.contains s w := by
  unfold linesC
  simp only [show ¬ (2 : Int) = 6 by decide, show ¬ (2 : Int) = 7 by decide, show ¬ (2 : Int) = 8 by decide, show ¬ (2 : Int) = 9 by decide, show ¬ (2 : Int) = 10 by decide, if_false]
  rw [← List.filterMap_eq_filter]
  congr 1
  funext s
  show (match (s, !Lib.contains s w) with | (t, true) => some t | (_, false) => none) = _
  cases h : Lib.contains s w <;> simp [h, Option.guard]
theorem keep_drop (w : Bs) (l : List Bs) : (linesC ⟨1, w, 0⟩ l ++ linesC ⟨2, w, 0⟩ l).Perm l := by
  rw [keep_filter, drop_filter]
  exact List.filter_append_perm _ l
theorem sortB_pairwise (l : List Bs) : (sortB l).Pairwise (· ≤ ·) := by
  have tr : ∀ a b c : Bs, decide (a ≤ b) = true → decide (b ≤ c) = true → decide (a ≤ c) = true := fun a b c h1 h2 => by
    simp only [decide_eq_true_eq] at *
    exact List.le_trans h1 h2
  have tot : ∀ a b : Bs, (decide (a ≤ b) || decide (b ≤ a)) = true := fun a b => by
    simp only [Bool.or_eq_true, decide_eq_true_eq]
    exact List.le_total a b
  exact (List.pairwise_mergeSort tr tot l).imp fun h => by simpa using h
theorem sortB_congr {l l' : List Bs} (h : l.Perm l') : sortB l = sortB l' := sortB_of (h.trans (sortB_perm l').symm) (sortB_pairwise l')
theorem noNl_perm {l l' : List Bs} (h : l.Perm l') (hn : NoNl l') : NoNl l := fun s hs => hn s (h.mem_iff.1 hs)
theorem noNl_sub {l l' : List Bs} (h : l.Sublist l') (hn : NoNl l') : NoNl l := fun s hs => hn s (h.subset hs)
theorem put_lines (b : Bs) : (put (linesOf b)).length ≤ b.length + 1 := whole_len b
/-- An index, from any integer. -/
theorem at_eq (k n : Int) (h : 1 ≤ n) : (if k.tmod n < 0 then k.tmod n + n else k.tmod n) = k % n := by
  have h1 := Int.tmod_lt_of_pos k (show 0 < n by omega)
  have e := Int.tmod_add_mul_tdiv k n
  have e2 : k % n = k.tmod n % n := by
    conv => lhs; rw [← e]
    rw [Int.add_mul_emod_self_left]
  have h2 : -n < k.tmod n := Int.lt_tmod_of_pos k (show 0 < n by omega)
  rw [e2]
  split
  · have e3 : (k.tmod n + n) % n = k.tmod n % n := Int.add_emod_right _ _
    rw [← e3, Int.emod_eq_of_lt (by omega) (by omega)]
  · rw [Int.emod_eq_of_lt (by omega) h1]
theorem doC_ok {c : Cmd} {b x : Bs} (h : doC c b = (x, 0)) : checkCmd c = 0 ∧ b.length ≤ 4000 ∧ x = put (linesC c (linesOf b)) := by
  unfold doC at h
  split at h
  · rename_i h1
    exact absurd (Prod.mk.inj h).2 h1
  rename_i h1
  split at h
  · exact absurd (Prod.mk.inj h).2 (by decide)
  · rename_i h2
    exact ⟨by simpa using h1, by omega, (Prod.mk.inj h).1.symm⟩
theorem doC_at {c : Cmd} {b : Bs} (h : checkCmd c = 0) (hb : b.length ≤ 4000) : doC c b = (put (linesC c (linesOf b)), 0) := by
  unfold doC
  rw [if_neg (by rw [h]; simp), if_neg (by omega)]
end Gv
end PartP4
section PartP5
/-! What is done twice, in plain words. -/
namespace Gv
open Go Gp
/-- Each differs from the one ahead of it. -/
def Apart (l : List Bs) : Prop := ∀ i (h : i + 1 < l.length), l[i + 1] ≠ l[i]
theorem apart_snoc {l : List Bs} {x : Bs} (h : Apart l) (hx : ∀ y, l.getLast? = some y → x ≠ y) : Apart (l ++ [x]) := by
  intro i hi
  rw [List.length_append] at hi
  simp only [List.length_cons, List.length_nil] at hi
  by_cases h1 : i + 1 < l.length
  · rw [List.getElem_append_left h1, List.getElem_append_left (by omega)]
    exact h i h1
  · have e : i + 1 = l.length := by omega
    rw [List.getElem_append_left (show i < l.length by omega), List.getElem_append_right (by omega)]
    have : [x][i + 1 - l.length]'(by simp; omega) = x := by
      simp [e]
    rw [this]
    refine hx _ ?_
    rw [List.getLast?_eq_getElem?, show l.length - 1 = i by omega, List.getElem?_eq_getElem]
theorem upto_apart (l : List Bs) : ∀ m, m ≤ l.length → Apart (Lib.compactUpTo l.toArray m) ∧ (0 < m → (Lib.compactUpTo l.toArray m).getLast? = some (l.toArray[m - 1]!))
  | 0, _ => ⟨fun i h => by simp [Lib.compactUpTo] at h, fun h => by omega⟩
  | m + 1, hm => by
    obtain ⟨h1, h2⟩ := upto_apart l m (by omega)
    rw [Lib.compactUpTo_succ]
    cases hk : Lib.keeps l.toArray m with
    | true =>
      simp only [if_true]
      refine ⟨apart_snoc h1 fun y hy => ?_, fun _ => by simp⟩
      rcases Nat.eq_zero_or_pos m with h0 | h0
      · subst h0
        simp [Lib.compactUpTo] at hy
      · rw [h2 h0] at hy
        cases hy
        have := of_decide_eq_true hk
        rcases this with h | h
        · omega
        · exact h
    | false =>
      simp only [Bool.false_eq_true, if_false, List.append_nil]
      refine ⟨h1, fun _ => ?_⟩
      have h0 : 0 < m := by
        rcases Nat.eq_zero_or_pos m with h0 | h0
        · subst h0
          rw [Lib.keeps_lt_one _ 0 (by omega)] at hk
          cases hk
        · exact h0
      have hd := of_decide_eq_false hk
      have he : l.toArray[m]! = l.toArray[m - 1]! := by
        by_cases h : l.toArray[m]! = l.toArray[m - 1]!
        · exact h
        · exact absurd (.inr h) hd
      rw [h2 h0]
      simp only [Nat.add_sub_cancel]
      rw [he]
theorem onceB_apart (l : List Bs) : Apart (onceB l) := (upto_apart l l.length (Nat.le_refl _)).1
theorem compact_idem (l : List Bs) : onceB (onceB l) = onceB l := by
  have ha := onceB_apart l
  generalize onceB l = e at ha
  refine Lib.compact_all e fun j hj => ?_
  rcases Nat.eq_zero_or_pos j with h0 | h0
  · subst h0
    exact Lib.keeps_lt_one _ 0 (by omega)
  · refine Lib.keeps_pos ?_
    have := ha (j - 1) (by omega)
    rw [getElem!_pos _ _ (by simpa using hj), getElem!_pos _ _ (by simp; omega)]
    simp only [List.getElem_toArray]
    have e2 : j - 1 + 1 = j := by omega
    simp only [e2] at this
    exact this
theorem take_take_self (n : Nat) (l : List Bs) : (l.take n).take n = l.take n := by rw [List.take_take, Nat.min_self]
theorem drop_drop_self (n : Nat) (l : List Bs) : (l.drop (l.length - n)).drop ((l.drop (l.length - n)).length - n) = l.drop (l.length - n) := by
  rw [List.length_drop]
  have : l.length - (l.length - n) - n = 0 := by omega
  rw [this, List.drop_zero]
/-- What is done again is done. -/
theorem linesC_again {c : Cmd} (h : c.kind = 6 ∨ c.kind = 7 ∨ c.kind = 1 ∨ c.kind = 2 ∨ c.kind = 9 ∨ c.kind = 10) (l : List Bs) : linesC c (linesC c l) = linesC c l := by
  have filt : ∀ (p : Bs → Bool) (l : List Bs), (l.filter p).filter p = l.filter p := fun p l => by rw [List.filter_filter]; congr 1; funext x; simp
  have f1 : c.kind = 1 → ∀ l : List Bs, linesC c l = l.filter fun s => Lib.contains s c.word := fun h1 l => by
    unfold linesC
    simp only [h1, show ¬ (1 : Int) = 6 by decide, show ¬ (1 : Int) = 7 by decide, show ¬ (1 : Int) = 8 by decide, show ¬ (1 : Int) = 9 by decide, show ¬ (1 : Int) = 10 by decide, if_false]
    rw [← List.filterMap_eq_filter]
    congr 1
    funext s
    unfold outC oneC
    rw [if_pos h1]
    cases hc : Lib.contains s c.word <;> simp [hc, Option.guard]
  have f2 : c.kind = 2 → ∀ l : List Bs, linesC c l = l.filter fun s => !Lib.contains s c.word := fun h1 l => by
    unfold linesC
    simp only [h1, show ¬ (2 : Int) = 6 by decide, show ¬ (2 : Int) = 7 by decide, show ¬ (2 : Int) = 8 by decide, show ¬ (2 : Int) = 9 by decide, show ¬ (2 : Int) = 10 by decide, if_false]
    rw [← List.filterMap_eq_filter]
    congr 1
    funext s
    unfold outC oneC
    rw [if_neg (by omega), if_pos h1]
    cases hc : Lib.contains s c.word <;> simp [hc, Option.guard]
  rcases h with h | h | h | h | h | h
  · unfold linesC
    rw [if_pos h, if_pos h]
    exact sortB_congr (sortB_perm l)
  · unfold linesC
    rw [if_neg (by omega), if_pos h, if_neg (by omega), if_pos h]
    exact compact_idem l
  · rw [f1 h, f1 h, filt]
  · rw [f2 h, f2 h, filt]
  · unfold linesC
    rw [if_neg (by omega), if_neg (by omega), if_neg (by omega), if_pos h, if_neg (by omega), if_neg (by omega), if_neg (by omega), if_pos h]
    exact take_take_self _ l
  · unfold linesC
    rw [if_neg (by omega), if_neg (by omega), if_neg (by omega), if_neg (by omega), if_pos h, if_neg (by omega), if_neg (by omega), if_neg (by omega), if_neg (by omega), if_pos h]
    exact drop_drop_self _ l
theorem linesC_turn {c : Cmd} (h : c.kind = 5) (l : List Bs) : linesC c l = l.map List.reverse := by
  unfold linesC
  rw [if_neg (by omega), if_neg (by omega), if_neg (by omega), if_neg (by omega), if_neg (by omega)]
  have : outC c = fun s => some s.reverse := by
    funext s
    unfold outC oneC
    rw [if_neg (by omega), if_neg (by omega), if_neg (by omega), if_neg (by omega)]
  rw [this]
  induction l with
  | nil => rfl
  | cons a r ih => rw [List.filterMap_cons]; simp [ih]
theorem linesC_swap {c : Cmd} (h : c.kind = 3) {x y : UInt8} (hw : c.word = [x, y]) (l : List Bs) : linesC c l = l.map fun s => s.map fun z => if z = x then y else z := by
  unfold linesC
  rw [if_neg (by omega), if_neg (by omega), if_neg (by omega), if_neg (by omega), if_neg (by omega)]
  have : outC c = fun s => some (s.map fun z => if z = x then y else z) := by
    funext s
    unfold outC oneC
    rw [if_neg (by omega), if_neg (by omega), if_pos h, hw]
    show some (Lib.replaceAll s [x] [y]) = _
    rw [replace_one]
  rw [this]
  induction l with
  | nil => rfl
  | cons a r ih => rw [List.filterMap_cons]; simp [ih]
theorem word_no10 {c : Cmd} (h : checkCmd c = 0) (hu : useWord c = true) : ∀ z ∈ c.word, z ≠ 10 := by
  have hw : isWord c.word = true := by
    unfold checkCmd at h
    grind
  intro z hz e
  unfold isWord at hw
  simp only [Bool.and_eq_true, List.all_eq_true] at hw
  have := hw.2 z hz
  subst e
  revert this
  decide
/-- No line that a command makes has an end of its own. -/
theorem split_mem (sep : Bs) : ∀ (k : Nat) (s : Bs), ∀ x ∈ Lib.splitK sep 0 k s, ∀ z ∈ x, z ∈ s
  | 0, s, x, hx, z, hz => by simp [Lib.splitK] at hx; subst hx; exact hz
  | k + 1, s, x, hx, z, hz => by
    unfold Lib.splitK at hx
    split at hx
    · simp at hx; subst hx; exact hz
    · rcases List.mem_cons.1 hx with rfl | hx
      · exact List.mem_of_mem_take hz
      · exact List.mem_of_mem_drop (split_mem sep k _ x hx z hz)
theorem outC_no10 {c : Cmd} (h : checkCmd c = 0) {s t : Bs} (ht : outC c s = some t) (hs : (10 : UInt8) ∉ s) : (10 : UInt8) ∉ t := by
  have e : t = (oneC c s).1 := by
    unfold outC at ht
    split at ht
    · rename_i u hu
      rw [hu]
      exact (Option.some.inj ht).symm
    · cases ht
  subst e
  unfold oneC
  split
  · exact hs
  split
  · exact hs
  split
  · rename_i h3
    obtain ⟨a, b, hw⟩ := word2 h h3
    have hb := word_no10 h (by unfold useWord; rw [h3]; rfl) b (by rw [hw]; simp)
    rw [hw]
    show (10 : UInt8) ∉ Lib.replaceAll s [a] [b]
    rw [replace_one]
    intro hm
    obtain ⟨z, hz, e⟩ := List.mem_map.1 hm
    split at e
    · exact hb e
    · exact hs (e ▸ hz)
  split
  · dsimp only
    split
    · simp
    · intro hm
      by_cases hi : (c.n - 1).toNat < (Lib.split s [32]).length
      · rw [List.getD_eq_getElem?_getD, List.getElem?_eq_getElem hi] at hm
        exact hs (split_mem [32] _ s _ (List.getElem_mem hi) 10 hm)
      · rw [List.getD_eq_getElem?_getD, List.getElem?_eq_none (by omega)] at hm
        simp at hm
  · simpa using hs
theorem linesC_noNl {c : Cmd} (h : checkCmd c = 0) (h8 : c.kind ≠ 8) {l : List Bs} (hl : NoNl l) : NoNl (linesC c l) := by
  unfold linesC
  split
  · exact noNl_perm (sortB_perm l) hl
  split
  · exact noNl_sub (onceB_sublist l) hl
  split
  · exact noNl_sub (List.take_sublist _ _) hl
  split
  · exact noNl_sub (List.drop_sublist _ _) hl
  · intro t ht
    obtain ⟨s, hs, e⟩ := List.mem_filterMap.1 ht
    exact outC_no10 h e (hl s hs)
theorem rot_perm (l : List Bs) (k : Nat) : (l.drop k ++ l.take k).Perm l := by
  have := (List.perm_append_comm : (l.drop k ++ l.take k).Perm (l.take k ++ l.drop k))
  rwa [List.take_append_drop] at this
theorem put_no {x : UInt8} (hx : x ≠ 10) : ∀ {l : List Bs}, (∀ s ∈ l, x ∉ s) → x ∉ put l
  | [], _ => by simp [put]
  | s :: r, h => by
    have h1 := h s (by simp)
    have h2 := put_no hx (l := r) fun t ht => h t (by simp [ht])
    unfold put
    simp only [List.mem_append, List.mem_cons, not_or]
    exact ⟨h1, hx, h2⟩
end Gv
end PartP5
section PartP7
/-! Joins, in plain words. -/
namespace Gv
open Go Gp
/-! ### Merged -/
def bestStep (b : Option (Nat × Bs)) (i : Nat) (l : List Bs) : Option (Nat × Bs) :=
  match l with
  | [] => b
  | s :: _ => match b with
    | none => some (i, s)
    | some (j, t) => if Op.bytesLess s t = true then some (i, s) else some (j, t)
/-- Of those that stand first, up to part i, the least one; of alike ones that of the first part. -/
def best (parts : List (List Bs)) : Nat → Option (Nat × Bs)
  | 0 => none
  | i + 1 => bestStep (best parts i) i (parts.getD i [])
def mergeN : Nat → List (List Bs) → List Bs
  | 0, _ => []
  | n + 1, parts => match best parts parts.length with
    | none => []
    | some (j, s) => s :: mergeN n (parts.set j ((parts.getD j []).drop 1))
def mergeB (parts : List (List Bs)) : List Bs := mergeN parts.flatten.length parts
theorem best_none {parts : List (List Bs)} : ∀ {i : Nat}, best parts i = none → ∀ k, k < i → parts.getD k [] = []
  | 0, _, k, hk => by omega
  | i + 1, h, k, hk => by
    unfold best bestStep at h
    split at h
    · rename_i e
      rcases Nat.lt_or_ge k i with h1 | h1
      · exact best_none h k h1
      · have : k = i := by omega
        rw [this, e]
    · split at h
      · cases h
      · split at h <;> cases h
theorem best_some {parts : List (List Bs)} : ∀ {i j : Nat} {s : Bs}, best parts i = some (j, s) → j < i ∧ (∃ t, parts.getD j [] = s :: t) ∧ ∀ k, k < i → ∀ x t, parts.getD k [] = x :: t → ¬ x < s
  | 0, j, s, h => by cases h
  | i + 1, j, s, h => by
    unfold best bestStep at h
    split at h
    · rename_i e
      obtain ⟨h1, h2, h3⟩ := best_some h
      refine ⟨by omega, h2, fun k hk x t hx => ?_⟩
      rcases Nat.lt_or_ge k i with h4 | h4
      · exact h3 k h4 x t hx
      · have : k = i := by omega
        subst this
        rw [e] at hx; cases hx
    · rename_i s' r e
      split at h
      · rename_i hb
        cases h
        refine ⟨by omega, ⟨_, e⟩, fun k hk x t hx => ?_⟩
        rcases Nat.lt_or_ge k i with h4 | h4
        · rw [best_none hb k h4] at hx; cases hx
        · have : k = i := by omega
          subst this
          rw [e] at hx; cases hx
          exact List.lt_irrefl _
      · rename_i j' t' hb
        obtain ⟨h1, h2, h3⟩ := best_some hb
        split at h
        · rename_i hl
          rw [less_eq, decide_eq_true_eq] at hl
          cases h
          refine ⟨by omega, ⟨_, e⟩, fun k hk x t hx => ?_⟩
          rcases Nat.lt_or_ge k i with h4 | h4
          · intro h5
            exact h3 k h4 x t hx (List.lt_trans h5 hl)
          · have : k = i := by omega
            subst this
            rw [e] at hx; cases hx
            exact List.lt_irrefl _
        · rename_i hl
          rw [less_eq, decide_eq_true_eq] at hl
          cases h
          refine ⟨by omega, h2, fun k hk x t hx => ?_⟩
          rcases Nat.lt_or_ge k i with h4 | h4
          · exact h3 k h4 x t hx
          · have : k = i := by omega
            subst this
            rw [e] at hx; cases hx
            exact hl
theorem all_nil {parts : List (List Bs)} (h : ∀ k, k < parts.length → parts.getD k [] = []) : parts.flatten = [] := by
  rw [List.flatten_eq_nil_iff]
  intro x hx
  obtain ⟨k, hk, rfl⟩ := List.getElem_of_mem hx
  have := h k hk
  rwa [List.getD_eq_getElem?_getD, List.getElem?_eq_getElem hk] at this
theorem getD_lt {parts : List (List Bs)} {j : Nat} {s : Bs} {t : List Bs} (h : parts.getD j [] = s :: t) : j < parts.length ∧ parts = parts.take j ++ (s :: t) :: parts.drop (j + 1) := by
  have hj : j < parts.length := by
    rcases Nat.lt_or_ge j parts.length with h1 | h1
    · exact h1
    · rw [List.getD_eq_getElem?_getD, List.getElem?_eq_none h1] at h; cases h
  refine ⟨hj, ?_⟩
  rw [List.getD_eq_getElem?_getD, List.getElem?_eq_getElem hj] at h
  have : parts[j] = s :: t := h
  rw [← this, List.getElem_cons_drop, List.take_append_drop]
theorem set_part {parts : List (List Bs)} {j : Nat} {s : Bs} {t : List Bs} (h : parts.getD j [] = s :: t) : parts.set j ((parts.getD j []).drop 1) = parts.take j ++ t :: parts.drop (j + 1) := by
  obtain ⟨hj, -⟩ := getD_lt h
  rw [h, List.set_eq_take_append_cons_drop, if_pos hj]
  rfl
theorem flat_part {parts : List (List Bs)} {j : Nat} {s : Bs} {t : List Bs} (h : parts.getD j [] = s :: t) : (s :: (parts.set j ((parts.getD j []).drop 1)).flatten).Perm parts.flatten := by
  obtain ⟨hj, e⟩ := getD_lt h
  rw [set_part h]
  have e2 : parts.flatten = (parts.take j).flatten ++ (s :: (t ++ (parts.drop (j + 1)).flatten)) := by
    have := congrArg List.flatten e
    rw [this]
    simp
  rw [e2]
  simp only [List.flatten_append, List.flatten_cons]
  exact (List.perm_middle).symm
theorem mergeB_step {parts : List (List Bs)} {j : Nat} {s : Bs} (h : best parts parts.length = some (j, s)) : mergeB parts = s :: mergeB (parts.set j ((parts.getD j []).drop 1)) := by
  obtain ⟨h1, ⟨t, h2⟩, -⟩ := best_some h
  have hl := (flat_part h2).length_eq
  rw [List.length_cons] at hl
  unfold mergeB
  rw [← hl, mergeN, h]
theorem mergeB_none {parts : List (List Bs)} (h : best parts parts.length = none) : mergeB parts = [] := by
  have := all_nil (best_none h)
  unfold mergeB
  rw [this]
  rfl
/-- By what stands first. -/
theorem merge_ind {P : List (List Bs) → Prop} (h0 : ∀ p, best p p.length = none → P p) (h1 : ∀ p j s t, best p p.length = some (j, s) → p.getD j [] = s :: t → P (p.set j ((p.getD j []).drop 1)) → P p) : ∀ p, P p := by
  intro p
  generalize hn : p.flatten.length = n
  induction n generalizing p with
  | zero =>
    cases h : best p p.length with
    | none => exact h0 p h
    | some x =>
      obtain ⟨j, s⟩ := x
      obtain ⟨-, ⟨t, h2⟩, -⟩ := best_some h
      have := (flat_part h2).length_eq
      rw [List.length_cons] at this
      omega
  | succ n ih =>
    cases h : best p p.length with
    | none => exact h0 p h
    | some x =>
      obtain ⟨j, s⟩ := x
      obtain ⟨-, ⟨t, h2⟩, -⟩ := best_some h
      have hl := (flat_part h2).length_eq
      rw [List.length_cons] at hl
      exact h1 p j s t h h2 (ih _ (by omega))
theorem mergeB_perm : ∀ p : List (List Bs), (mergeB p).Perm p.flatten := by
  intro p
  induction p using merge_ind with
  | h0 p h => rw [mergeB_none h, all_nil (best_none h)]
  | h1 p j s t h h2 ih =>
    rw [mergeB_step h]
    exact (ih.cons s).trans (flat_part h2)
theorem mergeB_sorted : ∀ p : List (List Bs), (∀ l ∈ p, l.Pairwise (· ≤ ·)) → (mergeB p).Pairwise (· ≤ ·) := by
  intro p
  induction p using merge_ind with
  | h0 p h => intro _; rw [mergeB_none h]; exact List.Pairwise.nil
  | h1 p j s t h h2 ih =>
    intro hp
    obtain ⟨hj, e⟩ := getD_lt h2
    obtain ⟨-, -, h3⟩ := best_some h
    have hs : ∀ l ∈ p.set j ((p.getD j []).drop 1), l.Pairwise (· ≤ ·) := fun l hl => by
      rw [set_part h2] at hl
      rw [e] at hp
      simp only [List.mem_append, List.mem_cons] at hl hp
      rcases hl with hl | rfl | hl
      · exact hp l (.inl hl)
      · exact (List.pairwise_cons.1 (hp (s :: l) (.inr (.inl rfl)))).2
      · exact hp l (.inr (.inr hl))
    rw [mergeB_step h, List.pairwise_cons]
    refine ⟨fun x hx => ?_, ih hs⟩
    have hx2 : x ∈ p.flatten := (flat_part h2).mem_iff.1 (List.mem_cons_of_mem _ ((mergeB_perm _).mem_iff.1 hx))
    obtain ⟨l, hl, hxl⟩ := List.mem_flatten.1 hx2
    obtain ⟨k, hk, rfl⟩ := List.getElem_of_mem hl
    cases hq : p[k] with
    | nil => rw [hq] at hxl; cases hxl
    | cons y r =>
      have hy : ¬ y < s := h3 k hk y r (by rw [List.getD_eq_getElem?_getD, List.getElem?_eq_getElem hk]; exact hq)
      have hsy : s ≤ y := hy
      rw [hq] at hxl
      rcases List.mem_cons.1 hxl with rfl | hxr
      · exact hsy
      · have := hp _ hl
        rw [hq, List.pairwise_cons] at this
        exact List.le_trans hsy (this.1 x hxr)
theorem mergeB_eq {p : List (List Bs)} (h : ∀ l ∈ p, l.Pairwise (· ≤ ·)) : mergeB p = sortB p.flatten := (sortB_of (mergeB_perm p).symm (mergeB_sorted p h)).symm
theorem mergeB_len (p : List (List Bs)) : (mergeB p).length = p.flatten.length := (mergeB_perm p).length_eq
/-! ### Summed -/
/-- What is no number is 0. -/
def numOf (s : Bs) : Int := match Lib.atoiAll s with | .ok k => if 0 ≤ k ∧ k ≤ 4000 ∧ Lib.itoa k = s then k else 0 | _ => 0
def numH (l : List Bs) : Int := match l with | [] => 0 | s :: _ => numOf s
def sumN (parts : List (List Bs)) : Nat → Int
  | 0 => 0
  | i + 1 => sumN parts i + numH (parts.getD i [])
theorem numOf_bnd (s : Bs) : 0 ≤ numOf s ∧ numOf s ≤ 4000 := by
  unfold numOf
  split
  · split <;> omega
  · omega
theorem numH_bnd (l : List Bs) : 0 ≤ numH l ∧ numH l ≤ 4000 := by
  cases l with
  | nil => simp [numH]
  | cons s r => exact numOf_bnd s
theorem sumN_bnd (parts : List (List Bs)) : ∀ i, 0 ≤ sumN parts i ∧ sumN parts i ≤ 4000 * i
  | 0 => by simp [sumN]
  | i + 1 => by
    have h1 := sumN_bnd parts i
    have h2 := numH_bnd (parts.getD i [])
    unfold sumN
    omega
theorem pu_cons (acc : Nat) (c : UInt8) (r : Bs) : Lib.parseUint10 acc (c :: r) = if 48 ≤ c.toNat ∧ c.toNat ≤ 57 then if 1844674407370955162 ≤ acc then .range else if 18446744073709551616 ≤ acc * 10 + (c.toNat - 48) then .range else Lib.parseUint10 (acc * 10 + (c.toNat - 48)) r else Lib.NumEnd.syntax := rfl
theorem parseUint_app : ∀ (a b : Bs) (acc : Nat), Lib.parseUint10 acc (a ++ b) = match Lib.parseUint10 acc a with | .ok u => Lib.parseUint10 u b | Lib.NumEnd.syntax => Lib.NumEnd.syntax | .range => .range
  | [], b, acc => rfl
  | c :: a, b, acc => by
    rw [List.cons_append, pu_cons, pu_cons]
    split
    · split
      · rfl
      · split
        · rfl
        · exact parseUint_app a b _
    · rfl
theorem parse_dec (u : Nat) (h : u < 1844674407370955161) : Lib.parseUint10 0 (Lib.decDigits u) = .ok u := by
  induction u using Nat.strongRecOn with
  | _ u ih =>
    rw [Lib.decDigits]
    split
    · rename_i h1
      have e : (UInt8.ofNat (48 + u)).toNat = 48 + u := by
        rw [UInt8.toNat_ofNat']; omega
      unfold Lib.parseUint10
      rw [e, if_pos (by omega), if_neg (by omega), if_neg (by omega)]
      unfold Lib.parseUint10
      congr 1; omega
    · rename_i h1
      rw [parseUint_app, ih (u / 10) (by omega) (by omega)]
      have e : (UInt8.ofNat (48 + u % 10)).toNat = 48 + u % 10 := by
        rw [UInt8.toNat_ofNat']; omega
      dsimp only
      unfold Lib.parseUint10
      rw [e, if_pos (by omega), if_neg (by omega), if_neg (by omega)]
      unfold Lib.parseUint10
      congr 1; omega
theorem dec_bytes (u : Nat) : ∀ c ∈ Lib.decDigits u, 48 ≤ c.toNat ∧ c.toNat ≤ 57 := by
  induction u using Nat.strongRecOn with
  | _ u ih =>
    rw [Lib.decDigits]
    split
    · intro c hc
      simp at hc
      subst hc
      rw [UInt8.toNat_add, UInt8.toNat_ofNat']
      simp; omega
    · intro c hc
      rcases List.mem_append.1 hc with hc | hc
      · exact ih (u / 10) (by omega) c hc
      · simp at hc
        subst hc
        rw [UInt8.toNat_add, UInt8.toNat_ofNat']
        simp; omega
theorem dec_ne (u : Nat) : Lib.decDigits u ≠ [] := by
  rw [Lib.decDigits]
  split <;> simp
theorem atoi_itoa {n : Nat} (h : n < 1844674407370955161) : Lib.atoiAll (Lib.itoa n) = .ok (n : Int) := by
  rw [Lib.itoa_nonneg]
  have hp := parse_dec n h
  cases hd : Lib.decDigits n with
  | nil => exact absurd hd (dec_ne n)
  | cons c r =>
    have hc := dec_bytes n c (by rw [hd]; simp)
    rw [Lib.atoiAll_plain c r (by omega) (by omega)]
    unfold Lib.parseMag
    rw [if_neg (by simp), ← hd, hp]
    show (if 9223372036854775808 ≤ n then Lib.NumEnd.range else .ok (n : Int)) = _
    rw [if_neg (by omega)]
theorem numOf_itoa {n : Nat} (h : n ≤ 4000) : numOf (Lib.itoa n) = n := by
  unfold numOf
  rw [atoi_itoa (by omega)]
  dsimp only
  rw [if_pos ⟨by omega, by omega, rfl⟩]
theorem itoa_no10 (n : Nat) : (10 : UInt8) ∉ Lib.itoa n := by
  rw [Lib.itoa_nonneg]
  intro h
  have := dec_bytes n 10 h
  simp at this
end Gv
end PartP7
section PartP8
/-! What joins come to, in plain words. -/
namespace Gv
open Go Gp
/-! ### Of lines that are alike one -/
theorem upto_snoc (l : List Bs) (x : Bs) : ∀ m, m ≤ l.length → Lib.compactUpTo (l ++ [x]).toArray m = Lib.compactUpTo l.toArray m
  | 0, _ => rfl
  | m + 1, h => by
    have ih := upto_snoc l x m (by omega)
    have hg : ∀ j, j < l.length → (l ++ [x]).toArray[j]! = l.toArray[j]! := fun j hj => by
      rw [getElem!_pos _ _ (by simp; omega), getElem!_pos _ _ (by simpa using hj)]
      simp [List.getElem_append_left hj]
    rw [Lib.compactUpTo_succ, Lib.compactUpTo_succ, ih, hg m (by omega)]
    have hk : Lib.keeps (l ++ [x]).toArray m = Lib.keeps l.toArray m := by
      unfold Lib.keeps
      rw [hg m (by omega), hg (m - 1) (by omega)]
    rw [hk]
theorem snoc_ind {α : Type} {P : List α → Prop} (h0 : P []) (h1 : ∀ a x, P a → P (a ++ [x])) : ∀ l, P l := fun l => by
  rw [← List.reverse_reverse l]
  generalize l.reverse = r
  induction r with
  | nil => exact h0
  | cons x r ih => rw [List.reverse_cons]; exact h1 _ x ih
theorem onceB_snoc (l : List Bs) (x : Bs) : onceB (l ++ [x]) = if l.getLast? = some x then onceB l else onceB l ++ [x] := by
  unfold onceB Lib.compact
  rw [List.length_append, List.length_singleton, Lib.compactUpTo_succ, upto_snoc l x _ (Nat.le_refl _)]
  have e : (l ++ [x]).toArray[l.length]! = x := by
    rw [getElem!_pos _ _ (by simp)]
    simp
  rw [e]
  induction l using snoc_ind with
  | h0 => simp [Lib.keeps_lt_one _ 0 (by omega)]
  | h1 a y _ =>
    have hk : Lib.keeps (a ++ [y] ++ [x]).toArray (a ++ [y]).length = decide (x ≠ y) := by
      unfold Lib.keeps
      rw [e]
      have e2 : (a ++ [y] ++ [x]).toArray[(a ++ [y]).length - 1]! = y := by
        rw [getElem!_pos _ _ (by simp)]
        simp
      rw [e2]
      simp
    rw [hk, List.getLast?_append]
    by_cases h : y = x
    · subst h; simp
    · have h2 : ¬ x = y := fun e => h e.symm
      simp [h, h2]
theorem onceB_last (l : List Bs) : (onceB l).getLast? = l.getLast? := by
  induction l using snoc_ind with
  | h0 => rfl
  | h1 a x ih =>
    rw [onceB_snoc]
    split
    · rename_i h
      rw [ih, h]; simp
    · simp
theorem onceB_left (a b : List Bs) : onceB (onceB a ++ b) = onceB (a ++ b) := by
  induction b using snoc_ind with
  | h0 => simp [compact_idem]
  | h1 b x ih =>
    rw [← List.append_assoc, ← List.append_assoc, onceB_snoc, onceB_snoc, ih]
    have : (onceB a ++ b).getLast? = (a ++ b).getLast? := by
      rw [List.getLast?_append, List.getLast?_append, onceB_last]
    rw [this]
theorem onceB_right (a b : List Bs) : onceB (a ++ onceB b) = onceB (a ++ b) := by
  induction b using snoc_ind with
  | h0 => rfl
  | h1 b x ih =>
    rw [onceB_snoc]
    split
    · rename_i h
      rw [ih, ← List.append_assoc, onceB_snoc, if_pos]
      rw [List.getLast?_append, h]; rfl
    · rw [← List.append_assoc, ← List.append_assoc, onceB_snoc, onceB_snoc, ih]
      have : (a ++ onceB b).getLast? = (a ++ b).getLast? := by
        rw [List.getLast?_append, List.getLast?_append, onceB_last]
      rw [this]
theorem onceB_flat : ∀ l : List (List Bs), onceB (l.map onceB).flatten = onceB l.flatten
  | [] => rfl
  | a :: r => by
    rw [List.map_cons, List.flatten_cons, List.flatten_cons, onceB_left, ← onceB_right, onceB_flat r, onceB_right]
/-! ### The first ones, the last ones -/
theorem take_flat (n : Nat) : ∀ (l : List (List Bs)) (k : Nat), k ≤ n → (l.map fun a => a.take n).flatten.take k = l.flatten.take k
  | [], k, _ => rfl
  | a :: r, k, hk => by
    rw [List.map_cons, List.flatten_cons, List.flatten_cons, List.take_append, List.take_append, List.take_take, Nat.min_eq_left hk, List.length_take]
    have ih := take_flat n r (k - a.length) (by omega)
    by_cases h : a.length ≤ n
    · rw [Nat.min_eq_right h, ih]
    · rw [Nat.min_eq_left (by omega), show k - n = 0 by omega, show k - a.length = 0 by omega]
      simp
def lastN (n : Nat) (l : List Bs) : List Bs := l.drop (l.length - n)
theorem lastN_rev (n : Nat) (l : List Bs) : lastN n l = (l.reverse.take n).reverse := by
  unfold lastN
  rw [List.take_reverse, List.reverse_reverse]
theorem last_flat (n : Nat) (l : List (List Bs)) : lastN n (l.map (lastN n)).flatten = lastN n l.flatten := by
  rw [lastN_rev, lastN_rev, List.reverse_flatten, List.reverse_flatten]
  congr 1
  have e : ((l.map (lastN n)).map List.reverse).reverse = ((l.map List.reverse).reverse).map fun a => a.take n := by
    rw [List.map_map, List.map_reverse, List.map_map]
    congr 1
    refine List.map_congr_left fun a _ => ?_
    show (lastN n a).reverse = _
    rw [lastN_rev, List.reverse_reverse]
    rfl
  rw [e, take_flat n _ n (Nat.le_refl _)]
/-! ### Joins -/
def joinB (how : Int) (c : Cmd) (p : List (List Bs)) : List Bs :=
  if how = 2 then mergeB p else if how = 3 then [Lib.itoa (sumN p p.length)] else if how = 4 then linesC c p.flatten else p.flatten
def checkJoin (how : Int) (c : Cmd) : Int := if how < 1 ∨ 4 < how then 4 else if how ≠ 4 then (if c ≠ zCmd then 4 else 0) else checkCmd c
def joinDo (how : Int) (c : Cmd) (p : List Bs) : Bs × Int :=
  if checkJoin how c ≠ 0 then ([], checkJoin how c) else if 5 < p.length then ([], 2) else if 4000 < p.flatten.length then ([], 2) else (put (joinB how c (p.map linesOf)), 0)
theorem filterMap_flat (f : Bs → Option Bs) : ∀ l : List (List Bs), (l.map fun a => a.filterMap f).flatten = l.flatten.filterMap f
  | [] => rfl
  | a :: r => by rw [List.map_cons, List.flatten_cons, List.flatten_cons, List.filterMap_append, filterMap_flat f r]
theorem sumN_counts : ∀ (l : List (List Bs)), (∀ a ∈ l, a.length ≤ 4000) → ∀ i, i ≤ l.length → sumN (l.map fun a => [Lib.itoa a.length]) i = ((l.take i).flatten.length : Int)
  | l, h, 0, _ => by simp [sumN]
  | l, h, i + 1, hi => by
    have ih := sumN_counts l h i (by omega)
    unfold sumN
    rw [ih, List.take_succ_eq_append_getElem (by omega)]
    have e : (l.map fun a => [Lib.itoa (a.length : Int)]).getD i [] = [Lib.itoa ((l[i]).length : Int)] := by
      rw [List.getD_eq_getElem?_getD, List.getElem?_map, List.getElem?_eq_getElem (by omega)]; rfl
    rw [e]
    show _ + numOf _ = _
    rw [numOf_itoa (h _ (List.getElem_mem _))]
    simp only [List.flatten_append, List.length_append, List.flatten_cons, List.flatten_nil, List.append_nil]
    omega
theorem kinds {c : Cmd} (h : checkCmd c = 0) : c.kind = 1 ∨ c.kind = 2 ∨ c.kind = 3 ∨ c.kind = 4 ∨ c.kind = 5 ∨ c.kind = 6 ∨ c.kind = 7 ∨ c.kind = 8 ∨ c.kind = 9 ∨ c.kind = 10 := by
  unfold checkCmd at h
  grind
/-- How a command's parts are joined is what it does to the whole. -/
theorem join_whole {c : Cmd} (h : checkCmd c = 0) (l : List (List Bs)) (hl : ∀ a ∈ l, a.length ≤ 4000) : joinB (howFor c) (if howFor c = 4 then c else zCmd) (l.map (linesC c)) = linesC c l.flatten := by
  have each : c.kind < 6 → ∀ a, linesC c a = a.filterMap (outC c) := fun hk a => by
    unfold linesC
    rw [if_neg (by omega), if_neg (by omega), if_neg (by omega), if_neg (by omega), if_neg (by omega)]
  have heach : c.kind < 6 → howFor c = 1 → joinB (howFor c) (if howFor c = 4 then c else zCmd) (l.map (linesC c)) = linesC c l.flatten := fun hk hh => by
    unfold joinB
    rw [hh, if_neg (by decide), if_neg (by decide), if_neg (by decide), each hk, ← filterMap_flat]
    congr 1
    exact List.map_congr_left fun a _ => each hk a
  have hf : ∀ n, howFor c = n → howFor c = n := fun n h => h
  rcases kinds h with k | k | k | k | k | k | k | k | k | k
  · exact heach (by omega) (by unfold howFor; rw [k]; rfl)
  · exact heach (by omega) (by unfold howFor; rw [k]; rfl)
  · exact heach (by omega) (by unfold howFor; rw [k]; rfl)
  · exact heach (by omega) (by unfold howFor; rw [k]; rfl)
  · exact heach (by omega) (by unfold howFor; rw [k]; rfl)
  · have e : ∀ a, linesC c a = sortB a := fun a => by unfold linesC; rw [if_pos k]
    have e2 : howFor c = 2 := by unfold howFor; rw [k]; rfl
    unfold joinB
    rw [e2, if_pos rfl, e, mergeB_eq]
    · refine sortB_congr ?_
      have : ∀ l : List (List Bs), (l.map (linesC c)).flatten.Perm l.flatten := fun l => by
        induction l with
        | nil => exact .refl _
        | cons a r ih =>
          rw [List.map_cons, List.flatten_cons, List.flatten_cons, e]
          exact (sortB_perm a).append ih
      exact this l
    · intro x hx
      obtain ⟨a, -, rfl⟩ := List.mem_map.1 hx
      rw [e]
      exact sortB_pairwise a
  · have e : ∀ a, linesC c a = onceB a := fun a => by unfold linesC; rw [if_neg (by omega), if_pos k]
    have e2 : howFor c = 4 := by unfold howFor; rw [k]; rfl
    unfold joinB
    rw [e2, if_neg (by decide), if_neg (by decide), if_pos rfl, if_pos rfl, e, e]
    have : l.map (linesC c) = l.map onceB := List.map_congr_left fun a _ => e a
    rw [this, onceB_flat]
  · have e : ∀ a, linesC c a = [Lib.itoa a.length] := fun a => by unfold linesC; rw [if_neg (by omega), if_neg (by omega), if_pos k]
    have e2 : howFor c = 3 := by unfold howFor; rw [k]; rfl
    unfold joinB
    rw [e2, if_neg (by decide), if_pos rfl, e]
    have : l.map (linesC c) = l.map fun a => [Lib.itoa a.length] := List.map_congr_left fun a _ => e a
    rw [this, List.length_map, sumN_counts l hl _ (Nat.le_refl _), List.take_length]
  · have e : ∀ a, linesC c a = a.take c.n.toNat := fun a => by unfold linesC; rw [if_neg (by omega), if_neg (by omega), if_neg (by omega), if_pos k]
    have e2 : howFor c = 4 := by unfold howFor; rw [k]; rfl
    unfold joinB
    rw [e2, if_neg (by decide), if_neg (by decide), if_pos rfl, if_pos rfl, e, e]
    have : l.map (linesC c) = l.map fun a => a.take c.n.toNat := List.map_congr_left fun a _ => e a
    rw [this, take_flat _ _ _ (Nat.le_refl _)]
  · have e : ∀ a, linesC c a = lastN c.n.toNat a := fun a => by unfold linesC; rw [if_neg (by omega), if_neg (by omega), if_neg (by omega), if_neg (by omega), if_pos k]; rfl
    have e2 : howFor c = 4 := by unfold howFor; rw [k]; rfl
    unfold joinB
    rw [e2, if_neg (by decide), if_neg (by decide), if_pos rfl, if_pos rfl, e, e]
    have : l.map (linesC c) = l.map (lastN c.n.toNat) := List.map_congr_left fun a _ => e a
    rw [this, last_flat]
theorem put_flat (p : List Bs) : (put (p.map linesOf).flatten).length ≤ p.flatten.length + p.length := by
  induction p with
  | nil => simp [put]
  | cons b r ih =>
    have h := put_lines b
    simp only [List.map_cons, List.flatten_cons, put_append, List.length_append, List.length_cons]
    omega
theorem joinB_put {h : Int} {c : Cmd} (hc : h = 4 → checkCmd c = 0) (p : List (List Bs)) (hp : p.length ≤ 1000) (hl : p.flatten.length ≤ 100000) : (put (joinB h c p)).length ≤ (put p.flatten).length + 30 := by
  unfold joinB
  split
  · rw [put_perm (mergeB_perm p)]; omega
  · split
    · have hb := sumN_bnd p p.length
      have := itoa_len (sumN p p.length) (by omega)
      simp only [put, List.length_append, List.length_cons, List.length_nil]
      omega
    · split
      · rename_i h4
        exact linesC_put (hc h4) _ hl
      · omega
end Gv
end PartP8
section PartP9
/-! Files, in plain words. -/
namespace Gv
open Go Gp
def notRise (q : Option Bs) (n : Bs) : Bool := match q with | none => false | some q => !Op.bytesLess q n
/-- By name, rising. -/
def filesGo : Option Bs → List FileS → Int
  | _, [] => 0
  | q, f :: r => if isWord f.name = false then 1 else if 4000 < f.b.length then 2 else if notRise q f.name = true then 6 else filesGo (some f.name) r
def checkFiles (l : List FileS) : Int := if 12 < l.length then 2 else filesGo none l
def prevN (l : List FileS) (i : Nat) : Option Bs := if i = 0 then none else some (l.getD (i - 1) ⟨[], []⟩).name
def notLess (n : Bs) (f : FileS) : Bool := !Op.bytesLess f.name n
def placeI (l : List FileS) (n : Bs) : Nat := l.findIdx (notLess n)
def isAt (l : List FileS) (n : Bs) : Bool := match l[placeI l n]? with | some f => decide (f.name = n) | none => false
/-- A file's bytes. -/
def fileAt (l : List FileS) (n : Bs) : Bs := match l[placeI l n]? with | some f => if f.name = n then f.b else [] | none => []
theorem filesGo_at {l : List FileS} {i : Nat} (h : i < l.length) : filesGo (prevN l i) (l.drop i) = if isWord l[i].name = false then 1 else if 4000 < l[i].b.length then 2 else if notRise (prevN l i) l[i].name = true then 6 else filesGo (prevN l (i + 1)) (l.drop (i + 1)) := by
  rw [List.drop_eq_getElem_cons h, filesGo]
  have e : prevN l (i + 1) = some l[i].name := by
    unfold prevN
    rw [if_neg (by omega), Nat.add_sub_cancel, List.getD_eq_getElem?_getD, List.getElem?_eq_getElem h]
    rfl
  rw [e]
theorem filesGo_ok : ∀ {l : List FileS} {q : Option Bs}, filesGo q l = 0 → ∀ f ∈ l, isWord f.name = true ∧ f.b.length ≤ 4000
  | [], q, _, f, hf => by cases hf
  | g :: r, q, h, f, hf => by
    rw [filesGo] at h
    split at h
    · cases h
    · rename_i h1
      split at h
      · cases h
      · rename_i h2
        split at h
        · cases h
        · rcases List.mem_cons.1 hf with rfl | hf
          · exact ⟨by simpa using h1, by omega⟩
          · exact filesGo_ok h f hf
theorem checkFiles_ok {l : List FileS} (h : checkFiles l = 0) : l.length ≤ 12 ∧ ∀ f ∈ l, isWord f.name = true ∧ f.b.length ≤ 4000 := by
  unfold checkFiles at h
  split at h
  · cases h
  · exact ⟨by omega, filesGo_ok h⟩
theorem place_at {l : List FileS} {n : Bs} {i : Nat} (h : i < l.length) (h1 : notLess n l[i] = true) (h2 : ∀ j (h : j < l.length), j < i → notLess n l[j] = false) : placeI l n = i := by
  unfold placeI
  rw [List.findIdx_eq h]
  exact ⟨h1, fun j hj => h2 j (by omega) hj⟩
theorem place_end {l : List FileS} {n : Bs} (h2 : ∀ j (h : j < l.length), notLess n l[j] = false) : placeI l n = l.length := by
  unfold placeI
  rw [List.findIdx_eq_length]
  intro x hx
  obtain ⟨j, hj, rfl⟩ := List.getElem_of_mem hx
  exact h2 j hj
theorem place_le (l : List FileS) (n : Bs) : placeI l n ≤ l.length := List.findIdx_le_length
theorem fileAt_len {l : List FileS} (h : ∀ f ∈ l, f.b.length ≤ 4000) (n : Bs) : (fileAt l n).length ≤ 4000 := by
  unfold fileAt
  split
  · rename_i f hf
    split
    · exact h f (List.mem_of_getElem? hf)
    · simp
  · simp
def gatherGo (l : List FileS) : Bs → List Bs → Bs × Int
  | out, [] => (out, 0)
  | out, s :: r => if 4000 < out.length + (whole (fileAt l s)).length then ([], 2) else gatherGo l (out ++ whole (fileAt l s)) r
def gatherS (l : List FileS) (f : List Bs) : Bs × Int := if checkFiles l ≠ 0 then ([], checkFiles l) else if 4 < f.length then ([], 2) else gatherGo l [] f
theorem gatherGo_len (l : List FileS) : ∀ (f : List Bs) (out : Bs), out.length ≤ 4000 → (gatherGo l out f).1.length ≤ 4000
  | [], out, h => h
  | s :: r, out, h => by
    rw [gatherGo]
    split
    · simp
    · refine gatherGo_len l r _ ?_
      rw [List.length_append]; omega
theorem gatherS_len (l : List FileS) (f : List Bs) : (gatherS l f).1.length ≤ 4000 := by
  unfold gatherS
  split
  · simp
  · split
    · simp
    · exact gatherGo_len l f [] (by simp)
def doLines (cs : List Cmd) (s : List Bs) : List Bs := cs.foldl (fun s c => linesC c s) s
theorem doLines_take {cs : List Cmd} {s : List Bs} {i : Nat} (h : i < cs.length) : doLines (cs.take (i + 1)) s = linesC cs[i] (doLines (cs.take i) s) := by
  unfold doLines
  rw [List.take_succ_eq_append_getElem h, List.foldl_append]
  rfl
theorem put_el {l : List Bs} {s : Bs} (h : s ∈ l) : s.length ≤ (put l).length := by
  induction l with
  | nil => cases h
  | cons x r ih =>
    rw [put, List.length_append, List.length_cons]
    rcases List.mem_cons.1 h with rfl | h
    · omega
    · have := ih h; omega
theorem doLines_put {cs : List Cmd} (hc : ∀ c ∈ cs, checkCmd c = 0) {s : List Bs} (hs : (put s).length ≤ 10000) (hn : cs.length ≤ 1000) : ∀ i, i ≤ cs.length → (put (doLines (cs.take i) s)).length ≤ (put s).length + 30 * i
  | 0, _ => by simp [doLines]
  | i + 1, hi => by
    have ih := doLines_put hc hs hn i (by omega)
    rw [doLines_take (by omega)]
    have h1 := put_len (l := doLines (cs.take i) s) (n := 100000) (by omega)
    have := linesC_put (hc cs[i] (List.getElem_mem _)) (doLines (cs.take i) s) h1
    omega
end Gv
end PartP9
section PartP10
/-! Parts and the whole, in plain words. -/
namespace Gv
open Go Gp
theorem linesC_no {c : Cmd} (h : checkCmd c = 0) {l : List Bs} (hl : NoNl l) : NoNl (linesC c l) := by
  by_cases h8 : c.kind = 8
  · have e : linesC c l = [Lib.itoa l.length] := by unfold linesC; rw [if_neg (by omega), if_neg (by omega), if_pos h8]
    rw [e]
    intro s hs
    simp at hs
    subst hs
    exact itoa_no10 _
  · exact linesC_noNl h h8 hl
theorem lines_whole : ∀ p : List Bs, linesOf (p.map whole).flatten = (p.map linesOf).flatten
  | [] => rfl
  | b :: r => by
    rw [List.map_cons, List.flatten_cons, List.map_cons, List.flatten_cons]
    show linesOf (put (linesOf b) ++ _) = _
    rw [linesOf_append (linesOf_no10 b), lines_whole r]
theorem whole_flat (p : List Bs) : (p.map whole).flatten.length ≤ p.flatten.length + p.length := by
  induction p with
  | nil => simp
  | cons b r ih =>
    have h := whole_len b
    simp only [List.map_cons, List.flatten_cons, List.length_append, List.length_cons]
    omega
theorem done_flat {c : Cmd} (h : checkCmd c = 0) (p : List Bs) (hp : ∀ b ∈ p, b.length ≤ 10000) : (p.map fun b => put (linesC c (linesOf b))).flatten.length ≤ p.flatten.length + 31 * p.length := by
  induction p with
  | nil => simp
  | cons b r ih =>
    have h0 := hp b (by simp)
    have h1 := linesOf_len b
    have h2 := put_lines b
    have h3 := linesC_put h (linesOf b) (by omega)
    have ih := ih fun x hx => hp x (by simp [hx])
    simp only [List.map_cons, List.flatten_cons, List.length_append, List.length_cons]
    omega
theorem checkJoin_for {c : Cmd} (h : checkCmd c = 0) : checkJoin (howFor c) (if howFor c = 4 then c else zCmd) = 0 := by
  have hf : howFor c = 1 ∨ howFor c = 2 ∨ howFor c = 3 ∨ howFor c = 4 := by
    unfold howFor
    split
    · simp
    · split
      · simp
      · split <;> simp
  unfold checkJoin
  rcases hf with e | e | e | e <;> rw [e] <;> simp [h]
theorem el_flat {p : List Bs} {b : Bs} (h : b ∈ p) : b.length ≤ p.flatten.length := by
  induction p with
  | nil => cases h
  | cons x r ih =>
    rw [List.flatten_cons, List.length_append]
    rcases List.mem_cons.1 h with rfl | h
    · omega
    · have := ih h; omega
theorem whole_law {c : Cmd} (h : checkCmd c = 0) (p : List Bs) (h1 : p.length ≤ 5) (h2 : p.flatten.length ≤ 2000) :
    joinDo (howFor c) (if howFor c = 4 then c else zCmd) (p.map fun b => put (linesC c (linesOf b))) = (put (linesC c (p.map linesOf).flatten), 0) ∧ doC c (p.map whole).flatten = (put (linesC c (p.map linesOf).flatten), 0) := by
  have hb : ∀ b ∈ p, b.length ≤ 2000 := fun b hb => Nat.le_trans (el_flat hb) h2
  refine ⟨?_, ?_⟩
  · have hd := done_flat h p fun b hm => by have := hb b hm; omega
    unfold joinDo
    rw [checkJoin_for h, if_neg (by simp), if_neg (by rw [List.length_map]; omega), if_neg (by omega)]
    congr 1
    have e : (p.map fun b => put (linesC c (linesOf b))).map linesOf = (p.map linesOf).map (linesC c) := by
      rw [List.map_map, List.map_map]
      refine List.map_congr_left fun b _ => ?_
      show linesOf (put (linesC c (linesOf b))) = _
      rw [linesOf_put (linesC_no h (linesOf_no10 b))]
      rfl
    rw [e, join_whole h]
    intro a ha
    obtain ⟨b, hm, rfl⟩ := List.mem_map.1 ha
    have := linesOf_len b
    have := hb b hm
    omega
  · have hw := whole_flat p
    rw [doC_at h (by omega), lines_whole]
end Gv
end PartP10
section PartP11
/-! Joined two by two, in plain words. -/
namespace Gv
open Go Gp
def jd (h : Int) (c : Cmd) (l : List Bs) : Bs := put (joinB h c (l.map linesOf))
theorem checkJoin_four {h : Int} {c : Cmd} (hc : checkJoin h c = 0) : (h = 4 → checkCmd c = 0) ∧ 1 ≤ h ∧ h ≤ 4 := by
  unfold checkJoin at hc
  split at hc
  · cases hc
  · rename_i h1
    refine ⟨fun h4 => ?_, by omega, by omega⟩
    rw [if_neg (by omega)] at hc
    exact hc
theorem jdo_ok {h : Int} {c : Cmd} (hc : checkJoin h c = 0) {l : List Bs} (h5 : l.length ≤ 5) (hl : l.flatten.length ≤ 4000) : joinDo h c l = (jd h c l, 0) := by
  unfold joinDo
  rw [hc, if_neg (by simp), if_neg (by omega), if_neg (by omega)]
  rfl
theorem jd_len {h : Int} {c : Cmd} (hc : checkJoin h c = 0) {l : List Bs} (h5 : l.length ≤ 5) (hl : l.flatten.length ≤ 4000) : (jd h c l).length ≤ l.flatten.length + l.length + 30 := by
  have h1 := put_flat l
  have h2 := put_len (l := (l.map linesOf).flatten) (n := 5000) (by omega)
  have h3 := joinB_put (checkJoin_four hc).1 (l.map linesOf) (by rw [List.length_map]; omega) (by omega)
  unfold jd
  omega
theorem noNl_flat {l : List (List Bs)} (h : ∀ a ∈ l, NoNl a) : NoNl l.flatten := fun s hs => by
  obtain ⟨a, ha, hsa⟩ := List.mem_flatten.1 hs
  exact h a ha s hsa
theorem joinB_no {h : Int} {c : Cmd} (hc : checkJoin h c = 0) {l : List (List Bs)} (hl : ∀ a ∈ l, NoNl a) : NoNl (joinB h c l) := by
  obtain ⟨h4, h1, h2⟩ := checkJoin_four hc
  unfold joinB
  split
  · exact noNl_perm (mergeB_perm l) (noNl_flat hl)
  · split
    · intro s hs
      simp at hs
      subst hs
      have hb := sumN_bnd l l.length
      obtain ⟨n, hn⟩ : ∃ n : Nat, sumN l l.length = n := ⟨(sumN l l.length).toNat, by omega⟩
      rw [hn]
      exact itoa_no10 n
    · split
      · rename_i e
        exact linesC_no (h4 e) (noNl_flat hl)
      · exact noNl_flat hl
theorem lines_jd {h : Int} {c : Cmd} (hc : checkJoin h c = 0) (l : List Bs) : linesOf (jd h c l) = joinB h c (l.map linesOf) := by
  unfold jd
  refine linesOf_put (joinB_no hc fun a ha => ?_)
  obtain ⟨b, -, rfl⟩ := List.mem_map.1 ha
  exact linesOf_no10 b
theorem sum3 (A B D : List Bs) : sumN [A, B, D] 3 = numH A + numH B + numH D := by
  show ((0 + numH A) + numH B) + numH D = _
  omega
theorem sum2 (A B : List Bs) : sumN [A, B] 2 = numH A + numH B := by
  show (0 + numH A) + numH B = _
  omega
theorem numH_itoa {k : Int} (h0 : 0 ≤ k) (h : k ≤ 4000) : numH [Lib.itoa k] = k := by
  obtain ⟨n, rfl⟩ : ∃ n : Nat, k = n := ⟨k.toNat, by omega⟩
  exact numOf_itoa (by omega)
theorem again_left {c : Cmd} (hk : c.kind = 7 ∨ c.kind = 9 ∨ c.kind = 10) (X D : List Bs) : linesC c (linesC c X ++ D) = linesC c (X ++ D) := by
  rcases hk with k | k | k
  · have e : ∀ a, linesC c a = onceB a := fun a => by unfold linesC; rw [if_neg (by omega), if_pos k]
    rw [e, e, e, onceB_left]
  · have e : ∀ a, linesC c a = a.take c.n.toNat := fun a => by unfold linesC; rw [if_neg (by omega), if_neg (by omega), if_neg (by omega), if_pos k]
    rw [e, e, e]
    have h := take_flat c.n.toNat [X, D] c.n.toNat (Nat.le_refl _)
    have h2 := take_flat c.n.toNat [X.take c.n.toNat, D] c.n.toNat (Nat.le_refl _)
    simp only [List.map_cons, List.map_nil, List.flatten_cons, List.flatten_nil, List.append_nil, List.take_take, Nat.min_self] at h h2
    rw [← h2, h]
  · have e : ∀ a, linesC c a = lastN c.n.toNat a := fun a => by unfold linesC; rw [if_neg (by omega), if_neg (by omega), if_neg (by omega), if_neg (by omega), if_pos k]; rfl
    rw [e, e, e]
    have h := last_flat c.n.toNat [X, D]
    have h2 := last_flat c.n.toNat [lastN c.n.toNat X, D]
    have hi : lastN c.n.toNat (lastN c.n.toNat X) = lastN c.n.toNat X := drop_drop_self _ _
    simp only [List.map_cons, List.map_nil, List.flatten_cons, List.flatten_nil, List.append_nil, hi] at h h2
    rw [← h2, h]
theorem again_right {c : Cmd} (hk : c.kind = 7 ∨ c.kind = 9 ∨ c.kind = 10) (A X : List Bs) : linesC c (A ++ linesC c X) = linesC c (A ++ X) := by
  rcases hk with k | k | k
  · have e : ∀ a, linesC c a = onceB a := fun a => by unfold linesC; rw [if_neg (by omega), if_pos k]
    rw [e, e, e, onceB_right]
  · have e : ∀ a, linesC c a = a.take c.n.toNat := fun a => by unfold linesC; rw [if_neg (by omega), if_neg (by omega), if_neg (by omega), if_pos k]
    rw [e, e, e]
    have h := take_flat c.n.toNat [A, X] c.n.toNat (Nat.le_refl _)
    have h2 := take_flat c.n.toNat [A, X.take c.n.toNat] c.n.toNat (Nat.le_refl _)
    simp only [List.map_cons, List.map_nil, List.flatten_cons, List.flatten_nil, List.append_nil, List.take_take, Nat.min_self] at h h2
    rw [← h2, h]
  · have e : ∀ a, linesC c a = lastN c.n.toNat a := fun a => by unfold linesC; rw [if_neg (by omega), if_neg (by omega), if_neg (by omega), if_neg (by omega), if_pos k]; rfl
    rw [e, e, e]
    have h := last_flat c.n.toNat [A, X]
    have h2 := last_flat c.n.toNat [A, lastN c.n.toNat X]
    have hi : lastN c.n.toNat (lastN c.n.toNat X) = lastN c.n.toNat X := drop_drop_self _ _
    simp only [List.map_cons, List.map_nil, List.flatten_cons, List.flatten_nil, List.append_nil, hi] at h h2
    rw [← h2, h]
def Sorted3 (a b d : Bs) : Prop := (linesOf a).Pairwise (· ≤ ·) ∧ (linesOf b).Pairwise (· ≤ ·) ∧ (linesOf d).Pairwise (· ≤ ·)
theorem nest_key {h : Int} {c : Cmd} (hc : checkJoin h c = 0) (h4 : h = 4 → c.kind = 7 ∨ c.kind = 9 ∨ c.kind = 10) {A B D : List Bs} (h2 : h = 2 → A.Pairwise (· ≤ ·) ∧ B.Pairwise (· ≤ ·) ∧ D.Pairwise (· ≤ ·))
    (h3 : h = 3 → numH A + numH B + numH D ≤ 4000) : joinB h c [joinB h c [A, B], D] = joinB h c [A, B, D] ∧ joinB h c [A, joinB h c [B, D]] = joinB h c [A, B, D] := by
  obtain ⟨-, hl, hu⟩ := checkJoin_four hc
  by_cases q2 : h = 2
  · obtain ⟨sa, sb, sd⟩ := h2 q2
    subst q2
    have e : ∀ p, joinB 2 c p = mergeB p := fun p => if_pos rfl
    have s2 : ∀ {X Y : List Bs}, X.Pairwise (· ≤ ·) → Y.Pairwise (· ≤ ·) → mergeB [X, Y] = sortB (X ++ Y) := fun hx hy => by
      rw [mergeB_eq (fun l hl => by simp at hl; rcases hl with rfl | rfl <;> assumption)]
      simp
    have s3 : mergeB [A, B, D] = sortB (A ++ (B ++ D)) := by
      rw [mergeB_eq (fun l hl => by simp at hl; rcases hl with rfl | rfl | rfl <;> assumption)]
      simp
    rw [e, e, e, e, e, s3, s2 sa sb, s2 sb sd, s2 (sortB_pairwise _) sd, s2 sa (sortB_pairwise _)]
    refine ⟨sortB_congr ?_, sortB_congr ?_⟩
    · have := (sortB_perm (A ++ B)).append_right D
      rw [List.append_assoc] at this
      exact this
    · exact (sortB_perm (B ++ D)).append_left A
  by_cases q3 : h = 3
  · have hs := h3 q3
    subst q3
    have ha := numH_bnd A
    have hb := numH_bnd B
    have hd := numH_bnd D
    have e : ∀ p : List (List Bs), joinB 3 c p = [Lib.itoa (sumN p p.length)] := fun p => by unfold joinB; rw [if_neg (by decide), if_pos rfl]
    rw [e, e, e, e, e]
    show [Lib.itoa (sumN [_, D] 2)] = [Lib.itoa (sumN [A, B, D] 3)] ∧ [Lib.itoa (sumN [A, _] 2)] = [Lib.itoa (sumN [A, B, D] 3)]
    have e1 : sumN [A, B] [A, B].length = numH A + numH B := sum2 A B
    have e2 : sumN [B, D] [B, D].length = numH B + numH D := sum2 B D
    rw [sum2, sum2, sum3, e1, e2, numH_itoa (by omega) (by omega), numH_itoa (by omega) (by omega)]
    refine ⟨rfl, ?_⟩
    rw [Int.add_assoc]
  by_cases q4 : h = 4
  · have hk := h4 q4
    subst q4
    have e : ∀ p : List (List Bs), joinB 4 c p = linesC c p.flatten := fun p => by unfold joinB; rw [if_neg (by decide), if_neg (by decide), if_pos rfl]
    rw [e, e, e, e, e]
    have f2 : ∀ X Y : List Bs, [X, Y].flatten = X ++ Y := fun X Y => by simp
    have f3 : [A, B, D].flatten = A ++ (B ++ D) := by simp
    rw [f2, f2, f2, f2, f3, again_left hk, again_right hk, List.append_assoc]
    exact ⟨rfl, rfl⟩
  · have e : ∀ p : List (List Bs), joinB h c p = p.flatten := fun p => by unfold joinB; rw [if_neg q2, if_neg q3, if_neg q4]
    rw [e, e, e, e, e]
    simp
theorem nest_law {h : Int} {c : Cmd} (hc : checkJoin h c = 0) (h4 : h = 4 → c.kind = 7 ∨ c.kind = 9 ∨ c.kind = 10) {a b d : Bs} (h2 : h = 2 → Sorted3 a b d)
    (h3 : h = 3 → numH (linesOf a) + numH (linesOf b) + numH (linesOf d) ≤ 4000) : jd h c [jd h c [a, b], d] = jd h c [a, b, d] ∧ jd h c [a, jd h c [b, d]] = jd h c [a, b, d] := by
  have e1 : jd h c [jd h c [a, b], d] = put (joinB h c [joinB h c [linesOf a, linesOf b], linesOf d]) := by
    show put (joinB h c [linesOf (jd h c [a, b]), linesOf d]) = _
    rw [lines_jd hc]; rfl
  have e2 : jd h c [a, jd h c [b, d]] = put (joinB h c [linesOf a, joinB h c [linesOf b, linesOf d]]) := by
    show put (joinB h c [linesOf a, linesOf (jd h c [b, d])]) = _
    rw [lines_jd hc]; rfl
  have e3 : jd h c [a, b, d] = put (joinB h c [linesOf a, linesOf b, linesOf d]) := rfl
  have key := nest_key hc h4 h2 h3
  rw [e1, e2, e3, key.1, key.2]
  exact ⟨rfl, rfl⟩
theorem merge_swap {c : Cmd} {a b : Bs} (ha : (linesOf a).Pairwise (· ≤ ·)) (hb : (linesOf b).Pairwise (· ≤ ·)) : jd 2 c [a, b] = jd 2 c [b, a] := by
  have e : ∀ p, joinB 2 c p = mergeB p := fun p => if_pos rfl
  show put (joinB 2 c [linesOf a, linesOf b]) = put (joinB 2 c [linesOf b, linesOf a])
  rw [e, e, mergeB_eq (fun l hl => by simp at hl; rcases hl with rfl | rfl <;> assumption), mergeB_eq (fun l hl => by simp at hl; rcases hl with rfl | rfl <;> assumption)]
  congr 1
  refine sortB_congr ?_
  have f2 : ∀ X Y : List Bs, [X, Y].flatten = X ++ Y := fun X Y => by simp
  rw [f2, f2]
  exact List.perm_append_comm
theorem sum_turn {c : Cmd} (a b d : Bs) : jd 3 c [d, a, b] = jd 3 c [a, b, d] := by
  have e : ∀ p : List (List Bs), joinB 3 c p = [Lib.itoa (sumN p p.length)] := fun p => by unfold joinB; rw [if_neg (by decide), if_pos rfl]
  show put (joinB 3 c [linesOf d, linesOf a, linesOf b]) = put (joinB 3 c [linesOf a, linesOf b, linesOf d])
  rw [e, e]
  show put [Lib.itoa (sumN [_, _, _] 3)] = put [Lib.itoa (sumN [_, _, _] 3)]
  rw [sum3, sum3]
  congr 3
  omega
/-- What a sum is read as. -/
theorem sum_back {c : Cmd} (a b d : Bs) : ∃ n : Nat, (n : Int) = numH (linesOf a) + numH (linesOf b) + numH (linesOf d) ∧ n ≤ 12000 ∧ jd 3 c [a, b, d] = Lib.itoa n ++ [10] := by
  have ha := numH_bnd (linesOf a)
  have hb := numH_bnd (linesOf b)
  have hd := numH_bnd (linesOf d)
  have e : ∀ p : List (List Bs), joinB 3 c p = [Lib.itoa (sumN p p.length)] := fun p => by unfold joinB; rw [if_neg (by decide), if_pos rfl]
  refine ⟨(numH (linesOf a) + numH (linesOf b) + numH (linesOf d)).toNat, by omega, by omega, ?_⟩
  show put (joinB 3 c [linesOf a, linesOf b, linesOf d]) = _
  rw [e]
  show put [Lib.itoa (sumN [_, _, _] 3)] = _
  rw [sum3, Int.toNat_of_nonneg (by omega)]
  rfl
end Gv
end PartP11
section PartP12
/-! What is left of parts, by how much of each went. -/
namespace Gv
open Go Gp
def curP (P : List (List Bs)) (a : List Nat) : List (List Bs) := List.zipWith (fun l k => l.drop k) P a
def bestN : Option (Nat × Bs) → Int
  | none => -1
  | some (j, _) => j
def bestS : Option (Nat × Bs) → Bs
  | none => []
  | some (_, s) => s
variable {P : List (List Bs)} {a : List Nat}
theorem curP_len (h : a.length = P.length) : (curP P a).length = P.length := by simp [curP, h]
theorem curP_0 (P : List (List Bs)) : curP P (List.replicate P.length 0) = P := by
  unfold curP
  induction P with
  | nil => rfl
  | cons x r ih => rw [List.length_cons, List.replicate_succ, List.zipWith_cons_cons, ih]; rfl
theorem curP_get (h : a.length = P.length) {i : Nat} (hi : i < P.length) : (curP P a).getD i [] = P[i].drop (a[i]'(by omega)) := by
  have hl : i < (curP P a).length := by rw [curP_len h]; exact hi
  rw [List.getD_eq_getElem?_getD, List.getElem?_eq_getElem hl]
  simp [curP]
theorem curP_set (h : a.length = P.length) {j : Nat} (hj : j < P.length) : curP P (a.set j (a[j]'(by omega) + 1)) = (curP P a).set j (((curP P a).getD j []).drop 1) := by
  rw [curP_get h hj, List.drop_drop]
  apply List.ext_getElem?
  intro i
  unfold curP
  rw [List.getElem?_zipWith]
  by_cases e : j = i
  · subst e
    rw [List.getElem?_set_self (by omega), List.getElem?_set_self (by simp; omega), List.getElem?_eq_getElem hj]
  · rw [List.getElem?_set_ne e, List.getElem?_set_ne e, List.getElem?_zipWith]
theorem best_next (q : List (List Bs)) (i : Nat) : best q (i + 1) = bestStep (best q i) i (q.getD i []) := rfl
end Gv
end PartP12
section PartP13
/-! Graphs, in plain words. -/
namespace Gv
open Go Gp
def outsN (n : Gp.Node) : Int := if n.kind = 2 then n.wide else if n.kind = 5 then 0 else 1
def errN (n : Gp.Node) : Int :=
  if n.kind = 1 ∨ n.kind = 5 then (if isWord n.file = true then 0 else 1)
  else if n.kind = 2 then (if n.wide < 1 ∨ 5 < n.wide then 3 else 0)
  else if n.kind = 3 then checkCmd n.c
  else checkJoin n.how n.c
def insN (n : Gp.Node) : Bool :=
  if n.kind = 1 ∨ n.kind = 5 then (decide ((n.ins.length : Int) = 1) == decide (n.kind = 5)) && decide ((n.ins.length : Int) < 2)
  else if n.kind = 4 then decide ((1 : Int) ≤ (n.ins.length : Int)) && decide ((n.ins.length : Int) ≤ 5)
  else decide ((n.ins.length : Int) = 1)
def wantN (n : Gp.Node) : Gp.Node :=
  ⟨n.kind, if n.kind = 1 ∨ n.kind = 5 then n.file else [], if n.kind = 3 ∨ n.kind = 4 then n.c else zCmd, if n.kind = 4 then n.how else 0, if n.kind = 2 then n.wide else 0, n.ins⟩
def checkN (n : Gp.Node) : Int :=
  if n.kind < 1 ∨ 5 < n.kind then 4 else if errN n ≠ 0 then errN n else if insN n = true ∧ n = wantN n then 0 else 4
abbrev Ents := List (List Int × Bool)
def portsGo (N : List Gp.Node) (i : Nat) : List Port → Ents → Int × Ents
  | [], u => (0, u)
  | p :: r, u => if p.node < 0 ∨ (i : Int) ≤ p.node ∨ p.out < 0 ∨ outsN (N.getD p.node.toNat ⟨0, [], zCmd, 0, 0, []⟩) ≤ p.out then (5, u) else if mget false u [p.node, p.out] = true then (6, u) else portsGo N i r (mput u [p.node, p.out] true)
def nodesGo (N : List Gp.Node) : Nat → List Gp.Node → Int → Ents → Int
  | i, [], o, u => if N.length = 0 ∨ (u.length : Int) ≠ o then 4 else 0
  | i, n :: r, o, u => if checkN n ≠ 0 then checkN n else if (portsGo N i n.ins u).1 ≠ 0 then (portsGo N i n.ins u).1 else if decide (n.kind = 5) ≠ decide ((i : Int) = (N.length : Int) - 1) then 4 else nodesGo N (i + 1) r (o + outsN n) (portsGo N i n.ins u).2
def checkG (N : List Gp.Node) : Int := if 60 < N.length then 2 else nodesGo N 0 N 0 []
theorem outsN_bnd {n : Gp.Node} (h : checkN n = 0) : 0 ≤ outsN n ∧ outsN n ≤ 5 := by
  unfold checkN at h
  split at h
  · cases h
  · split at h
    · rename_i h1 h2
      exact absurd h h2
    · rename_i h1 h2
      unfold outsN
      split
      · rename_i h3
        simp only [errN, h3] at h2
        simp at h2
        omega
      · split <;> omega
theorem nodesGo_at {N : List Gp.Node} {i : Nat} (hi : i < N.length) (o : Int) (u : Ents) : nodesGo N i (N.drop i) o u = if checkN N[i] ≠ 0 then checkN N[i] else if (portsGo N i N[i].ins u).1 ≠ 0 then (portsGo N i N[i].ins u).1 else if decide (N[i].kind = 5) ≠ decide ((i : Int) = (N.length : Int) - 1) then 4 else nodesGo N (i + 1) (N.drop (i + 1)) (o + outsN N[i]) (portsGo N i N[i].ins u).2 := by
  rw [List.drop_eq_getElem_cons hi, nodesGo]
theorem portsGo_at {N : List Gp.Node} {i : Nat} {l : List Port} {j : Nat} (hj : j < l.length) (u : Ents) : portsGo N i (l.drop j) u = if l[j].node < 0 ∨ (i : Int) ≤ l[j].node ∨ l[j].out < 0 ∨ outsN (N.getD l[j].node.toNat ⟨0, [], zCmd, 0, 0, []⟩) ≤ l[j].out then (5, u) else if mget false u [l[j].node, l[j].out] = true then (6, u) else portsGo N i (l.drop (j + 1)) (mput u [l[j].node, l[j].out] true) := by
  rw [List.drop_eq_getElem_cons hj, portsGo]
end Gv
end PartP13
section PartP14
/-! What a graph makes, in plain words. -/
namespace Gv
open Go Gp
theorem linesC_put9 {c : Cmd} (h : checkCmd c = 0) (l : List Bs) (hl : l.length ≤ 900000) : (put (linesC c l)).length ≤ (put l).length + 30 := by
  unfold linesC
  split
  · rw [put_perm (sortB_perm l)]; omega
  split
  · have := put_sub (onceB_sublist l); omega
  split
  · have := itoa_len l.length ⟨by omega, by omega⟩
    simp only [put, List.length_append, List.length_cons, List.length_nil]
    omega
  split
  · have := put_sub (List.take_sublist c.n.toNat l); omega
  split
  · have := put_sub (List.drop_sublist (l.length - c.n.toNat) l); omega
  · have := put_filterMap h l; omega
theorem joinB_put9 {h : Int} {c : Cmd} (hc : h = 4 → checkCmd c = 0) (p : List (List Bs)) (hp : p.length ≤ 1000) (hl : p.flatten.length ≤ 900000) : (put (joinB h c p)).length ≤ (put p.flatten).length + 30 := by
  unfold joinB
  split
  · rw [put_perm (mergeB_perm p)]; omega
  · split
    · have hb := sumN_bnd p p.length
      have := itoa_len (sumN p p.length) (by omega)
      simp only [put, List.length_append, List.length_cons, List.length_nil]
      omega
    · split
      · rename_i h4
        exact linesC_put9 (hc h4) _ hl
      · omega
def makeN (n : Gp.Node) (f : List FileS) (ins : List Bs) : List Bs :=
  if n.kind = 1 then [put (linesOf (fileAt f n.file))]
  else if n.kind = 2 then splitLines (linesOf (ins.getD 0 [])) n.wide.toNat
  else if n.kind = 3 then [put (linesC n.c (linesOf (ins.getD 0 [])))]
  else if n.kind = 4 then [put (joinB n.how n.c (ins.map linesOf))]
  else []
theorem checkN_fine {n : Gp.Node} (h : checkN n = 0) : 1 ≤ n.kind ∧ n.kind ≤ 5 ∧ errN n = 0 ∧ insN n = true := by
  unfold checkN at h
  split at h
  · cases h
  · split at h
    · rename_i h1 h2
      exact absurd h h2
    · rename_i h1 h2
      split at h
      · rename_i h3
        exact ⟨by omega, by omega, Decidable.not_not.1 h2, h3.1⟩
      · cases h
theorem checkN_shape {n : Gp.Node} (h : checkN n = 0) : (n.kind = 1 ∧ n.ins.length = 0) ∨ (n.kind = 2 ∧ n.ins.length = 1 ∧ 1 ≤ n.wide ∧ n.wide ≤ 5) ∨ (n.kind = 3 ∧ n.ins.length = 1 ∧ checkCmd n.c = 0) ∨ (n.kind = 4 ∧ 1 ≤ n.ins.length ∧ n.ins.length ≤ 5 ∧ checkJoin n.how n.c = 0) ∨ (n.kind = 5 ∧ n.ins.length = 1) := by
  obtain ⟨h1, h2, h3, h4⟩ := checkN_fine h
  have hk : n.kind = 1 ∨ n.kind = 2 ∨ n.kind = 3 ∨ n.kind = 4 ∨ n.kind = 5 := by omega
  rcases hk with k | k | k | k | k
  · refine .inl ⟨k, ?_⟩
    simp [insN, k] at h4
    omega
  · refine .inr (.inl ⟨k, ?_⟩)
    simp [insN, k] at h4
    simp [errN, k] at h3
    omega
  · refine .inr (.inr (.inl ⟨k, ?_, ?_⟩))
    · simp [insN, k] at h4
      omega
    · simpa [errN, k] using h3
  · refine .inr (.inr (.inr (.inl ⟨k, ?_, ?_, ?_⟩)))
    · simp [insN, k] at h4
      omega
    · simp [insN, k] at h4
      omega
    · simpa [errN, k] using h3
  · refine .inr (.inr (.inr (.inr ⟨k, ?_⟩)))
    simp [insN, k] at h4
    omega
theorem parts_take (l : List Bs) (n : Nat) (hn : 0 < n) : ∀ k, k ≤ n → (((List.range k).map fun k => put (part l n k)).flatten).length = (put (l.take (k * l.length / n))).length
  | 0, _ => by simp [put]
  | k + 1, hk => by
    rw [List.range_succ, List.map_append, List.flatten_append, List.length_append, parts_take l n hn k (by omega), ← part_cat l n k hn, put_append, List.length_append]
    simp
theorem split_len2 (l : List Bs) (n : Nat) (hn : 0 < n) : (splitLines l n).flatten.length = (put l).length := by
  unfold splitLines
  rw [parts_take l n hn n (Nat.le_refl _), Nat.mul_div_cancel_left _ hn, List.take_length]
theorem getD_flat (l : List Bs) (i : Nat) : (l.getD i []).length ≤ l.flatten.length := by
  rw [List.getD_eq_getElem?_getD]
  cases h : l[i]? with
  | none => simp
  | some b => exact el_flat (List.mem_of_getElem? h)
theorem makeN_len {n : Gp.Node} {f : List FileS} {ins : List Bs} (h : checkN n = 0) (hi : n.ins.length = ins.length) (hf : ∀ x ∈ f, x.b.length ≤ 4000) (hl : ins.flatten.length ≤ 500000) : (makeN n f ins).flatten.length ≤ ins.flatten.length + 4040 := by
  have h0 := getD_flat ins 0
  have h1 := put_lines (ins.getD 0 [])
  have h2 := linesOf_len (ins.getD 0 [])
  unfold makeN
  rcases checkN_shape h with ⟨k, e⟩ | ⟨k, e, w1, w2⟩ | ⟨k, e, hc⟩ | ⟨k, e1, e2, hc⟩ | ⟨k, e⟩
  · rw [if_pos k]
    have h3 := fileAt_len hf n.file
    have h4 := put_lines (fileAt f n.file)
    simp only [List.flatten_cons, List.flatten_nil, List.append_nil]
    omega
  · rw [if_neg (by omega), if_pos k, split_len2 _ _ (by omega)]
    omega
  · rw [if_neg (by omega), if_neg (by omega), if_pos k]
    have h3 := linesC_put9 hc (linesOf (ins.getD 0 [])) (by omega)
    simp only [List.flatten_cons, List.flatten_nil, List.append_nil]
    omega
  · rw [if_neg (by omega), if_neg (by omega), if_neg (by omega), if_pos k]
    have h3 := put_flat ins
    have h4 := put_len (l := (ins.map linesOf).flatten) (n := 600000) (by omega)
    have h5 := joinB_put9 (checkJoin_four hc).1 (ins.map linesOf) (by rw [List.length_map]; omega) (by omega)
    simp only [List.flatten_cons, List.flatten_nil, List.append_nil]
    omega
  · rw [if_neg (by omega), if_neg (by omega), if_neg (by omega), if_neg (by omega)]
    simp
theorem makeN_outs {n : Gp.Node} {f : List FileS} {ins : List Bs} (h : checkN n = 0) : ((makeN n f ins).length : Int) = outsN n := by
  unfold makeN outsN
  rcases checkN_shape h with ⟨k, e⟩ | ⟨k, e, w1, w2⟩ | ⟨k, e, hc⟩ | ⟨k, e1, e2, hc⟩ | ⟨k, e⟩
  · rw [if_pos k, if_neg (by omega), if_neg (by omega)]; rfl
  · rw [if_neg (by omega), if_pos k, if_pos k]
    simp [splitLines]
    omega
  · rw [if_neg (by omega), if_neg (by omega), if_pos k, if_neg (by omega), if_neg (by omega)]; rfl
  · rw [if_neg (by omega), if_neg (by omega), if_neg (by omega), if_pos k, if_neg (by omega), if_neg (by omega)]; rfl
  · rw [if_neg (by omega), if_neg (by omega), if_neg (by omega), if_neg (by omega), if_neg (by omega), if_pos k]; rfl
/-! ### Eval -/
def portAt (out : List (List Bs)) (p : Port) : Bs := (out.getD p.node.toNat []).getD p.out.toNat []
def insOf (out : List (List Bs)) (l : List Port) : List Bs := l.map (portAt out)
def evalGo (f : List FileS) : List Gp.Node → List (List Bs) → Bs × Int
  | [], _ => ([], 4)
  | n :: r, out => if n.kind = 5 then ((insOf out n.ins).getD 0 [], 0) else evalGo f r (out ++ [makeN n f (insOf out n.ins)])
def evalG (N : List Gp.Node) (f : List FileS) : Bs × Int := if checkG N ≠ 0 then ([], checkG N) else if checkFiles f ≠ 0 then ([], checkFiles f) else evalGo f N []
def tot (G : List (List Bs)) : Nat := G.flatten.flatten.length
theorem mget_put {α : Type} (z : α) : ∀ (l : List (List Int × α)) (k : List Int) (a : α) (k' : List Int), mget z (mput l k a) k' = if k = k' then a else mget z l k'
  | [], k, a, k' => by simp [mput, mget]
  | (j, b) :: r, k, a, k' => by
    unfold mput
    by_cases h : j = k
    · subst h
      simp only [if_true, mget]
      split <;> rfl
    · simp only [h, if_false, mget, mget_put z r k a k']
      by_cases h1 : j = k'
      · subst h1
        have h2 : ¬ k = j := fun e => h e.symm
        simp [h2]
      · simp [h1]
theorem set_nil (l : List Bs) {o : Nat} (h : o < l.length) : (l.set o []).flatten.length + (l.getD o []).length = l.flatten.length := by
  have e : l = l.take o ++ l[o] :: l.drop (o + 1) := by rw [List.getElem_cons_drop, List.take_append_drop]
  have hg : l.getD o [] = l[o] := by rw [List.getD_eq_getElem?_getD, List.getElem?_eq_getElem h]; rfl
  have h2 := congrArg (fun x => x.flatten.length) e
  simp only [List.flatten_append, List.flatten_cons, List.length_append] at h2
  rw [List.set_eq_take_append_cons_drop, if_pos h, hg]
  simp only [List.flatten_append, List.flatten_cons, List.length_append, List.length_nil]
  omega
theorem tot_set (G : List (List Bs)) {k o : Nat} (h : k < G.length) (ho : o < (G.getD k []).length) : tot (G.set k ((G.getD k []).set o [])) + ((G.getD k []).getD o []).length = tot G := by
  have hg : G.getD k [] = G[k] := by rw [List.getD_eq_getElem?_getD, List.getElem?_eq_getElem h]; rfl
  have e : G = G.take k ++ G[k] :: G.drop (k + 1) := by rw [List.getElem_cons_drop, List.take_append_drop]
  have h2 := congrArg (fun x => x.flatten.flatten.length) e
  simp only [List.flatten_append, List.flatten_cons, List.length_append] at h2
  rw [hg] at ho ⊢
  have h3 := set_nil G[k] ho
  unfold tot
  rw [List.set_eq_take_append_cons_drop, if_pos h]
  simp only [List.flatten_append, List.flatten_cons, List.length_append]
  omega
/-- What is not used yet, as it came. -/
structure Left (N : List Gp.Node) (out : List (List Bs)) (u : Ents) (G : List (List Bs)) : Prop where
  len : G.length = out.length
  outs : ∀ k (h : k < out.length), ∃ h2 : k < N.length, (out[k].length : Int) = outsN N[k]
  each : ∀ k, (G.getD k []).length = (out.getD k []).length
  same : ∀ (k o : Nat), mget false u [(k : Int), (o : Int)] = false → (G.getD k []).getD o [] = (out.getD k []).getD o []
theorem ports_left {N : List Gp.Node} {out : List (List Bs)} : ∀ {l : List Port} {u u' : Ents} {G : List (List Bs)}, Left N out u G → portsGo N out.length l u = (0, u') → ∃ G', Left N out u' G' ∧ tot G' + (insOf out l).flatten.length ≤ tot G ∧ ∀ p ∈ l, ∃ k o : Nat, p.node = k ∧ p.out = o ∧ ∃ h : k < out.length, o < out[k].length
  | [], u, u', G, hL, h => by
    simp only [portsGo, Prod.mk.injEq, true_and] at h
    subst h
    exact ⟨G, hL, by simp [insOf], fun p hp => by cases hp⟩
  | p :: r, u, u', G, hL, h => by
    rw [portsGo] at h
    split at h
    · cases h
    · rename_i h1
      split at h
      · cases h
      · rename_i h2
        obtain ⟨k, hk⟩ : ∃ k : Nat, p.node = k := ⟨p.node.toNat, by omega⟩
        obtain ⟨o, ho⟩ : ∃ o : Nat, p.out = o := ⟨p.out.toNat, by omega⟩
        have hko : k < out.length := by omega
        obtain ⟨hkN, hou⟩ := hL.outs k hko
        have hgN : N.getD p.node.toNat ⟨0, [], zCmd, 0, 0, []⟩ = N[k] := by
          rw [hk, Int.toNat_natCast, List.getD_eq_getElem?_getD, List.getElem?_eq_getElem hkN]; rfl
        rw [hgN] at h1
        have hgo : out.getD k [] = out[k] := by rw [List.getD_eq_getElem?_getD, List.getElem?_eq_getElem hko]; rfl
        have hol : o < out[k].length := by omega
        have hoG : o < (G.getD k []).length := by rw [hL.each, hgo]; exact hol
        have hkG : k < G.length := by rw [hL.len]; exact hko
        have hmf : mget false u [(k : Int), (o : Int)] = false := by
          rw [hk, ho] at h2
          simpa using h2
        have has := hL.same k o hmf
        have ht := tot_set G hkG hoG
        rw [hk, ho] at h
        have hL2 : Left N out (mput u [(k : Int), (o : Int)] true) (G.set k ((G.getD k []).set o [])) := by
          refine ⟨by rw [List.length_set]; exact hL.len, hL.outs, fun k' => ?_, fun k' o' hm => ?_⟩
          · rw [← hL.each k', List.getD_eq_getElem?_getD]
            by_cases e : k = k'
            · subst e
              rw [List.getElem?_set_self hkG]
              simp
            · rw [List.getElem?_set_ne e, List.getD_eq_getElem?_getD]
          · rw [mget_put] at hm
            split at hm
            · cases hm
            · rename_i hne
              have hn2 : ¬ (k = k' ∧ o = o') := fun e => hne (by rw [e.1, e.2])
              rw [← hL.same k' o' hm, List.getD_eq_getElem?_getD (l := G.set _ _)]
              by_cases e : k = k'
              · subst e
                have hoo : o ≠ o' := fun e => hn2 ⟨rfl, e⟩
                rw [List.getElem?_set_self hkG]
                show ((G.getD k []).set o []).getD o' [] = (G.getD k []).getD o' []
                rw [List.getD_eq_getElem?_getD, List.getElem?_set_ne hoo, ← List.getD_eq_getElem?_getD]
              · rw [List.getElem?_set_ne e, ← List.getD_eq_getElem?_getD]
        obtain ⟨G', hL3, hle, hall⟩ := ports_left hL2 h
        refine ⟨G', hL3, ?_, fun q hq => ?_⟩
        · have e : insOf out (p :: r) = ((out.getD k []).getD o []) :: insOf out r := by
            simp [insOf, portAt, hk, ho]
          rw [e, List.flatten_cons, List.length_append, ← has]
          omega
        · rcases List.mem_cons.1 hq with rfl | hq
          · exact ⟨k, o, hk, ho, hko, hol⟩
          · exact hall q hq
theorem getD_app {α : Type} (l r : List α) (d : α) {k : Nat} (h : k < l.length) : (l ++ r).getD k d = l.getD k d := by
  rw [List.getD_eq_getElem?_getD, List.getElem?_append_left h, ← List.getD_eq_getElem?_getD]
theorem getD_app2 {α : Type} (l r : List α) (d : α) {k : Nat} (h : l.length ≤ k) : (l ++ r).getD k d = r.getD (k - l.length) d := by
  rw [List.getD_eq_getElem?_getD, List.getElem?_append_right h, ← List.getD_eq_getElem?_getD]
theorem left_snoc {N : List Gp.Node} {out : List (List Bs)} {u : Ents} {G : List (List Bs)} (hL : Left N out u G) {x : List Bs} (hN : out.length < N.length) (hx : (x.length : Int) = outsN N[out.length]) : Left N (out ++ [x]) u (G ++ [x]) ∧ tot (G ++ [x]) = tot G + x.flatten.length := by
  refine ⟨⟨by rw [List.length_append, List.length_append, hL.len], fun k hk => ?_, fun k => ?_, fun k o hm => ?_⟩, by simp [tot]⟩
  · rcases Nat.lt_or_ge k out.length with h | h
    · rw [List.getElem_append_left h]
      exact hL.outs k h
    · have e : k = out.length := by
        rw [List.length_append, List.length_singleton] at hk
        omega
      subst e
      refine ⟨hN, ?_⟩
      rw [List.getElem_append_right (Nat.le_refl _)]
      simpa using hx
  · rcases Nat.lt_or_ge k out.length with h | h
    · have h2 : k < G.length := by rw [hL.len]; exact h
      rw [getD_app _ _ _ h2, getD_app _ _ _ h, hL.each]
    · have h2 : G.length ≤ k := by rw [hL.len]; exact h
      rw [getD_app2 _ _ _ h2, getD_app2 _ _ _ h, hL.len]
  · rcases Nat.lt_or_ge k out.length with h | h
    · have h2 : k < G.length := by rw [hL.len]; exact h
      rw [getD_app _ _ _ h2, getD_app _ _ _ h, hL.same k o hm]
    · have h2 : G.length ≤ k := by rw [hL.len]; exact h
      rw [getD_app2 _ _ _ h2, getD_app2 _ _ _ h, hL.len]
/-- Up to node `i`. -/
def Upto (N : List Gp.Node) (out : List (List Bs)) : Prop := ∃ o u G, nodesGo N out.length (N.drop out.length) o u = 0 ∧ Left N out u G ∧ tot G ≤ 4100 * out.length
theorem upto_0 {N : List Gp.Node} (h : checkG N = 0) : Upto N [] ∧ N.length ≤ 60 := by
  unfold checkG at h
  split at h
  · cases h
  · exact ⟨⟨0, [], [], h, ⟨rfl, fun k hk => absurd hk (by simp), fun k => rfl, fun k o _ => rfl⟩, by simp [tot]⟩, by omega⟩
/-- What a node takes in, up to node `i`. -/
theorem upto_node {N : List Gp.Node} {out : List (List Bs)} (hU : Upto N out) (h60 : N.length ≤ 60) (hi : out.length < N.length) : checkN N[out.length] = 0 ∧ (insOf out N[out.length].ins).flatten.length ≤ 4100 * out.length ∧ (∀ p ∈ N[out.length].ins, ∃ k o : Nat, p.node = k ∧ p.out = o ∧ ∃ h : k < out.length, o < out[k].length) ∧ (N[out.length].kind = 5 ↔ out.length + 1 = N.length) ∧ ∀ f : List FileS, (∀ x ∈ f, x.b.length ≤ 4000) → Upto N (out ++ [makeN N[out.length] f (insOf out N[out.length].ins)]) := by
  obtain ⟨o, u, G, hgo, hL, ht⟩ := hU
  rw [nodesGo_at hi] at hgo
  split at hgo
  · rename_i h1; exact absurd hgo h1
  · rename_i h1
    have hcn : checkN N[out.length] = 0 := Decidable.not_not.1 h1
    split at hgo
    · rename_i h2; exact absurd hgo h2
    · rename_i h2
      have hp : portsGo N out.length N[out.length].ins u = (0, (portsGo N out.length N[out.length].ins u).2) := by
        rw [← Decidable.not_not.1 h2]
      split at hgo
      · cases hgo
      · rename_i h3
        have h3 := Decidable.not_not.1 h3
        obtain ⟨G', hL', hle, hall⟩ := ports_left hL hp
        have hfl : (insOf out N[out.length].ins).flatten.length ≤ 4100 * out.length := by omega
        refine ⟨hcn, hfl, hall, ?_, fun f hf => ?_⟩
        · have h4 : (N[out.length].kind = 5) ↔ ((out.length : Int) = (N.length : Int) - 1) := by simpa using h3
          rw [h4]; omega
        · obtain ⟨hs1, hs2⟩ := left_snoc hL' hi (makeN_outs (f := f) (ins := insOf out N[out.length].ins) hcn)
          have hm := makeN_len (f := f) (ins := insOf out N[out.length].ins) hcn (by simp [insOf]) hf (by omega)
          refine ⟨o + outsN N[out.length], _, _, ?_, hs1, ?_⟩
          · rw [List.length_append, List.length_singleton]
            exact hgo
          · rw [hs2, List.length_append, List.length_singleton]
            omega
end Gv
end PartP14
section PartP15
/-! What comes into a sink hangs on the files of its sources alone. -/
namespace Gv
open Go Gp
theorem lt_tr {a b c : Bs} (h1 : a < b) (h2 : b < c) : a < c := List.lt_trans h1 h2
theorem filesGo_iff : ∀ {l : List FileS} {q : Option Bs}, filesGo q l = 0 ↔ (∀ f ∈ l, isWord f.name = true ∧ f.b.length ≤ 4000) ∧ (l.Pairwise fun a b => a.name < b.name) ∧ ∀ s, q = some s → ∀ f ∈ l, s < f.name
  | [], q => by simp [filesGo]
  | g :: r, q => by
    have ih := @filesGo_iff r (some g.name)
    rw [filesGo]
    constructor
    · intro h
      split at h
      · cases h
      · rename_i h1
        split at h
        · cases h
        · rename_i h2
          split at h
          · cases h
          · rename_i h3
            obtain ⟨i1, i2, i3⟩ := ih.1 h
            have i3 := i3 _ rfl
            have hq : ∀ s, q = some s → s < g.name := fun s hs => by
              subst hs
              simp only [notRise, less_eq] at h3
              simpa using h3
            refine ⟨fun f hf => ?_, List.pairwise_cons.2 ⟨i3, i2⟩, fun s hs f hf => ?_⟩
            · rcases List.mem_cons.1 hf with rfl | hf
              · exact ⟨by simpa using h1, by omega⟩
              · exact i1 f hf
            · rcases List.mem_cons.1 hf with rfl | hf
              · exact hq s hs
              · exact lt_tr (hq s hs) (i3 f hf)
    · rintro ⟨j1, j2, j3⟩
      obtain ⟨k1, k2⟩ := j1 g (List.mem_cons_self ..)
      rw [List.pairwise_cons] at j2
      rw [if_neg (by simp [k1]), if_neg (by omega), if_neg ?_]
      · exact ih.2 ⟨fun f hf => j1 f (List.mem_cons_of_mem _ hf), j2.2, fun s hs f hf => by cases hs; exact j2.1 f hf⟩
      · cases q with
        | none => simp [notRise]
        | some s =>
          have := j3 s rfl g (List.mem_cons_self ..)
          simp [notRise, less_eq, this]
def isNamed (n : Bs) (f : FileS) : Bool := decide (f.name = n)
theorem fileAt_find : ∀ {l : List FileS} (n : Bs), (l.Pairwise fun a b => a.name < b.name) → fileAt l n = match l.find? (isNamed n) with | some f => f.b | none => []
  | [], n, _ => rfl
  | g :: r, n, h => by
    rw [List.pairwise_cons] at h
    have ih := fileAt_find n h.2
    rw [List.find?_cons]
    by_cases h1 : g.name < n
    · have hne : isNamed n g = false := by
        simp only [isNamed, decide_eq_false_iff_not]
        intro e
        rw [e] at h1
        exact List.lt_irrefl _ h1
      have hnl : notLess n g = false := by simp [notLess, less_eq, h1]
      rw [hne]
      simp only
      rw [← ih]
      unfold fileAt placeI
      rw [List.findIdx_cons, hnl]
      simp
    · have hnl : notLess n g = true := by simp [notLess, less_eq, h1]
      have hp : fileAt (g :: r) n = if g.name = n then g.b else [] := by
        unfold fileAt placeI
        rw [List.findIdx_cons, hnl]
        simp
      rw [hp]
      by_cases e : g.name = n
      · rw [if_pos e]
        have : isNamed n g = true := by simp [isNamed, e]
        rw [this]
      · rw [if_neg e]
        have : isNamed n g = false := by simp [isNamed, e]
        rw [this]
        simp only
        have hn : r.find? (isNamed n) = none := by
          rw [List.find?_eq_none]
          intro x hx hxn
          have hxn : x.name = n := by simpa [isNamed] using hxn
          have := h.1 x hx
          rw [hxn] at this
          exact h1 this
        rw [hn]
def keepF (N : List Gp.Node) (f : FileS) : Bool := N.any fun n => decide (n.kind = 1) && decide (n.file = f.name)
def wholeF (f : FileS) : FileS := if (whole f.b).length ≤ 4000 then ⟨f.name, whole f.b⟩ else f
def few (N : List Gp.Node) (l : List FileS) : List FileS := (l.filter (keepF N)).map wholeF
theorem wholeF_name (f : FileS) : (wholeF f).name = f.name := by unfold wholeF; split <;> rfl
theorem wholeF_len {f : FileS} (h : f.b.length ≤ 4000) : (wholeF f).b.length ≤ 4000 := by
  unfold wholeF
  split
  · assumption
  · exact h
theorem wholeF_lines (f : FileS) : linesOf (wholeF f).b = linesOf f.b := by
  unfold wholeF
  split
  · exact linesOf_put (linesOf_no10 f.b)
  · rfl
theorem few_ok {N : List Gp.Node} {l : List FileS} (h : checkFiles l = 0) : checkFiles (few N l) = 0 := by
  unfold checkFiles at h ⊢
  split at h
  · cases h
  · rename_i h1
    obtain ⟨j1, j2, j3⟩ := filesGo_iff.1 h
    have hl : (few N l).length ≤ l.length := by
      unfold few
      rw [List.length_map]
      exact List.length_filter_le _ _
    rw [if_neg (by omega)]
    refine filesGo_iff.2 ⟨fun f hf => ?_, ?_, fun s hs => by cases hs⟩
    · obtain ⟨g, hg, rfl⟩ := List.mem_map.1 hf
      have := j1 g (List.mem_filter.1 hg).1
      exact ⟨by rw [wholeF_name]; exact this.1, wholeF_len this.2⟩
    · unfold few
      rw [List.pairwise_map]
      refine (j2.filter _).imp fun h => ?_
      rw [wholeF_name, wholeF_name]
      exact h
theorem find_filter {p q : FileS → Bool} : ∀ (l : List FileS), (∀ f ∈ l, p f = true → q f = true) → (l.filter q).find? p = l.find? p
  | [], _ => rfl
  | g :: r, h => by
    have ih := find_filter r fun f hf => h f (List.mem_cons_of_mem _ hf)
    rw [List.filter_cons, List.find?_cons]
    cases hp : p g with
    | true =>
      rw [if_pos (h g (List.mem_cons_self ..) hp), List.find?_cons, hp]
    | false =>
      split
      · rw [List.find?_cons, hp]
        exact ih
      · exact ih
theorem few_lines {N : List Gp.Node} {l : List FileS} (h : checkFiles l = 0) {n : Gp.Node} (hn : n ∈ N) (hk : n.kind = 1) : linesOf (fileAt (few N l) n.file) = linesOf (fileAt l n.file) := by
  have pw : ∀ {x : List FileS}, checkFiles x = 0 → x.Pairwise fun a b => a.name < b.name := fun {x} hx => by
    unfold checkFiles at hx
    split at hx
    · cases hx
    · exact (filesGo_iff.1 hx).2.1
  rw [fileAt_find _ (pw (few_ok h)), fileAt_find _ (pw h)]
  unfold few
  rw [List.find?_map, show (isNamed n.file ∘ wholeF) = isNamed n.file from by funext f; simp [isNamed, wholeF_name], find_filter l fun f hf hp => ?_]
  · cases l.find? (isNamed n.file) with
    | none => rfl
    | some f => exact wholeF_lines f
  · have hp : f.name = n.file := by simpa [isNamed] using hp
    unfold keepF
    rw [List.any_eq_true]
    exact ⟨n, hn, by simp [hk, hp]⟩
theorem evalGo_few {N : List Gp.Node} {l : List FileS} (h : checkFiles l = 0) : ∀ (M : List Gp.Node) (out : List (List Bs)), (∀ n ∈ M, n ∈ N) → evalGo (few N l) M out = evalGo l M out
  | [], out, _ => rfl
  | n :: r, out, hm => by
    rw [evalGo, evalGo]
    split
    · rfl
    · have e : makeN n (few N l) (insOf out n.ins) = makeN n l (insOf out n.ins) := by
        unfold makeN
        split
        · rename_i k1
          rw [few_lines h (hm n (List.mem_cons_self ..)) k1]
        · rfl
      rw [e]
      exact evalGo_few h r _ fun x hx => hm x (List.mem_cons_of_mem _ hx)
theorem few_law {N : List Gp.Node} {l : List FileS} (h : (evalG N l).2 = 0) : evalG N (few N l) = evalG N l := by
  unfold evalG at h ⊢
  split at h
  · rename_i h1; exact absurd h h1
  · rename_i h1
    rw [if_neg h1, if_neg h1]
    split at h
    · rename_i h2; exact absurd h h2
    · rename_i h2
      rw [if_neg h2, if_neg (by rw [few_ok (Decidable.not_not.1 h2)]; exact fun e => e rfl), evalGo_few (Decidable.not_not.1 h2) N [] fun n hn => hn]
end Gv
end PartP15
section PartP16
/-! A plan is a graph. -/
namespace Gv
open Go Gp
def useAll : List Port → Ents → Ents
  | [], u => u
  | p :: r, u => useAll r (mput u [p.node, p.out] true)
theorem mput_new {k : List Int} : ∀ {u : Ents}, (∀ e ∈ u, e.2 = true) → mget false u k = false → mput u k true = u ++ [(k, true)]
  | [], _, _ => rfl
  | (j, b) :: r, h, hm => by
    have hb : b = true := h (j, b) (List.mem_cons_self ..)
    unfold mget at hm
    unfold mput
    split
    · rename_i e
      rw [if_pos e, hb] at hm
      cases hm
    · rename_i e
      rw [if_neg e] at hm
      rw [mput_new (fun x hx => h x (List.mem_cons_of_mem _ hx)) hm]
      rfl
/-- A port of one of these nodes. -/
def Of (M : List Gp.Node) (p : Port) : Prop := ∃ k o : Nat, p = ⟨k, o⟩ ∧ ∃ h : k < M.length, (o : Int) < outsN M[k]
theorem useAll_ok {M : List Gp.Node} : ∀ {l : List Port} {u : Ents}, (∀ p ∈ l, Of M p ∧ mget false u [p.node, p.out] = false) → l.Nodup → (∀ e ∈ u, e.2 = true ∧ ∃ a b : Int, e.1 = [a, b] ∧ a < M.length) →
    (∀ N, M <+: N → portsGo N M.length l u = (0, useAll l u)) ∧ (useAll l u).length = u.length + l.length ∧ (∀ e ∈ useAll l u, e.2 = true ∧ ∃ a b : Int, e.1 = [a, b] ∧ a < M.length) ∧ ∀ a b : Int, (⟨a, b⟩ : Port) ∉ l → mget false (useAll l u) [a, b] = mget false u [a, b]
  | [], u, _, _, hu => ⟨fun N _ => rfl, rfl, hu, fun a b _ => rfl⟩
  | p :: r, u, hp, hn, hu => by
    rw [List.nodup_cons] at hn
    obtain ⟨⟨k, o, rfl, hk, ho⟩, hm⟩ := hp p (List.mem_cons_self ..)
    have hput := mput_new (fun e he => (hu e he).1) hm
    have hu2 : ∀ e ∈ mput u [(k : Int), (o : Int)] true, e.2 = true ∧ ∃ a b : Int, e.1 = [a, b] ∧ a < M.length := fun e he => by
      rw [hput] at he
      rcases List.mem_append.1 he with he | he
      · exact hu e he
      · rw [List.mem_singleton] at he
        subst he
        exact ⟨rfl, k, o, rfl, by omega⟩
    have hp2 : ∀ q ∈ r, Of M q ∧ mget false (mput u [(k : Int), (o : Int)] true) [q.node, q.out] = false := fun q hq => by
      obtain ⟨h1, h2⟩ := hp q (List.mem_cons_of_mem _ hq)
      refine ⟨h1, ?_⟩
      rw [mget_put, if_neg ?_]
      · exact h2
      · intro e
        apply hn.1
        have e1 : (k : Int) = q.node := by simpa using (List.cons.inj e).1
        have e2 : (o : Int) = q.out := by simpa using (List.cons.inj (List.cons.inj e).2).1
        rw [e1, e2]
        exact hq
    obtain ⟨i1, i2, i3, i4⟩ := useAll_ok hp2 hn.2 hu2
    refine ⟨fun N hN => ?_, ?_, i3, fun a b hab => ?_⟩
    · have hg : N.getD k ⟨0, [], zCmd, 0, 0, []⟩ = M[k] := by
        obtain ⟨t, rfl⟩ := hN
        rw [getD_app _ _ _ hk, List.getD_eq_getElem?_getD, List.getElem?_eq_getElem hk]; rfl
      rw [portsGo, if_neg ?_, if_neg (by simp [hm]), i1 N hN]
      · rfl
      · show ¬ ((k : Int) < 0 ∨ (M.length : Int) ≤ (k : Int) ∨ (o : Int) < 0 ∨ outsN (N.getD (k : Int).toNat _) ≤ (o : Int))
        rw [Int.toNat_natCast, hg]
        omega
    · show (useAll r _).length = _
      rw [i2, hput, List.length_append]
      simp only [List.length_cons, List.length_nil]
      omega
    · show mget false (useAll r _) [a, b] = _
      rw [i4 a b fun h => hab (List.mem_cons_of_mem _ h), mget_put, if_neg ?_]
      intro e
      apply hab
      have e1 : (k : Int) = a := by simpa using (List.cons.inj e).1
      have e2 : (o : Int) = b := by simpa using (List.cons.inj (List.cons.inj e).2).1
      rw [← e1, ← e2]
      exact List.mem_cons_self ..
/-- Nodes so far, and the ports not taken yet. -/
structure Good (M : List Gp.Node) (cur : List Port) : Prop where
  go : ∃ (o : Int) (u : Ents), (∀ N, M <+: N → M.length < N.length → nodesGo N 0 N 0 [] = nodesGo N M.length (N.drop M.length) o u) ∧ (u.length : Int) + cur.length = o ∧ (∀ e ∈ u, e.2 = true ∧ ∃ a b : Int, e.1 = [a, b] ∧ a < M.length) ∧ ∀ p ∈ cur, Of M p ∧ mget false u [p.node, p.out] = false
  nd : cur.Nodup
  no5 : ∀ n ∈ M, n.kind ≠ 5
theorem good_0 : Good [] [] := ⟨⟨0, [], fun N _ _ => rfl, rfl, fun e he => by simp at he, fun p hp => by simp at hp⟩, List.nodup_nil, fun n hn => by simp at hn⟩
theorem Of.more {M : List Gp.Node} {p : Port} (h : Of M p) (n : Gp.Node) : Of (M ++ [n]) p := by
  obtain ⟨k, o, e, hk, ho⟩ := h
  refine ⟨k, o, e, by rw [List.length_append]; omega, ?_⟩
  rw [List.getElem_append_left hk]
  exact ho
theorem Good.perm {M : List Gp.Node} {cur cur' : List Port} (h : Good M cur) (hp : cur.Perm cur') : Good M cur' := by
  obtain ⟨⟨o, u, h1, h2, h3, h4⟩, hn, h5⟩ := h
  exact ⟨⟨o, u, h1, by rw [← hp.length_eq]; exact h2, h3, fun p hq => h4 p (hp.mem_iff.2 hq)⟩, hp.nodup_iff.1 hn, h5⟩
theorem Good.node {M : List Gp.Node} {rest : List Port} {n : Gp.Node} (h : Good M (n.ins ++ rest)) (hc : checkN n = 0) (hk : n.kind ≠ 5) : Good (M ++ [n]) (rest ++ ports M.length (outsN n).toNat) := by
  obtain ⟨⟨o, u, h1, h2, h3, h4⟩, hn, h5⟩ := h
  rw [List.nodup_append] at hn
  obtain ⟨hn1, hn2, hn3⟩ := hn
  obtain ⟨j1, j2, j3, j4⟩ := useAll_ok (fun p hp => h4 p (List.mem_append_left _ hp)) hn1 h3
  have hob := outsN_bnd hc
  refine ⟨⟨o + outsN n, useAll n.ins u, fun N hN hlt => ?_, ?_, fun e he => ?_, fun p hp => ?_⟩, ?_, fun x hx => ?_⟩
  · rw [List.length_append, List.length_singleton] at hlt ⊢
    have hM : M <+: N := (List.prefix_append M [n]).trans hN
    have hlt2 : M.length < N.length := by omega
    have hNn : N[M.length] = n := by
      obtain ⟨t, rfl⟩ := hN
      rw [List.getElem_append_left (by simp)]
      simp
    rw [h1 N hM hlt2, nodesGo_at hlt2, hNn, hc, if_neg (by simp), j1 N hM, if_neg (by simp), if_neg ?_]
    rw [Decidable.not_not]
    rw [decide_eq_false hk, decide_eq_false (by omega)]
  · rw [List.length_append] at h2
    rw [List.length_append, ports_len, j2]
    omega
  · obtain ⟨e1, a, b, e2, e3⟩ := j3 e he
    refine ⟨e1, a, b, e2, ?_⟩
    rw [List.length_append]
    omega
  · rcases List.mem_append.1 hp with hp | hp
    · obtain ⟨k1, k2⟩ := h4 p (List.mem_append_right _ hp)
      refine ⟨k1.more n, ?_⟩
      rw [j4 p.node p.out ?_]
      · exact k2
      · intro hq
        exact hn3 _ hq _ hp rfl
    · obtain ⟨j, hj, rfl⟩ := List.mem_map.1 hp
      rw [List.mem_range] at hj
      refine ⟨⟨M.length, j, rfl, by rw [List.length_append, List.length_singleton]; omega, ?_⟩, ?_⟩
      · simp only [List.getElem_append_right (Nat.le_refl _)]
        simp
        omega
      · show mget false (useAll n.ins u) [(M.length : Int), (j : Int)] = false
        have nokey : ∀ (w : Ents), (∀ e ∈ w, e.2 = true ∧ ∃ a b : Int, e.1 = [a, b] ∧ a < M.length) → mget false w [(M.length : Int), (j : Int)] = false := by
          intro w
          induction w with
          | nil => intro _; rfl
          | cons e r ih =>
            intro hw
            obtain ⟨ks, v⟩ := e
            obtain ⟨-, a, b, e2, e3⟩ := hw _ (List.mem_cons_self ..)
            unfold mget
            rw [if_neg ?_]
            · exact ih fun x hx => hw x (List.mem_cons_of_mem _ hx)
            · intro e4
              have e2 : ks = [a, b] := e2
              rw [e2] at e4
              have := (List.cons.inj e4).1
              omega
        exact nokey _ j3
  · rw [List.nodup_append]
    refine ⟨hn2, ?_, fun a ha b hb e => ?_⟩
    · unfold ports
      exact List.pairwise_map.2 (List.nodup_range.imp fun h e => h (by have e2 := congrArg Port.out e; simp at e2; omega))
    · subst e
      obtain ⟨j, hj, e⟩ := List.mem_map.1 hb
      obtain ⟨⟨k, o2, e2, hk2, -⟩, -⟩ := h4 a (List.mem_append_right _ ha)
      rw [e2] at e
      have := congrArg Port.node e
      simp at this
      omega
  · rcases List.mem_append.1 hx with hx | hx
    · exact h5 x hx
    · rw [List.mem_singleton] at hx
      subst hx; exact hk
theorem Good.sink {M : List Gp.Node} {n : Gp.Node} (h : Good M n.ins) (hc : checkN n = 0) (hk : n.kind = 5) (hl : M.length < 60) : checkG (M ++ [n]) = 0 := by
  obtain ⟨⟨o, u, h1, h2, h3, h4⟩, hn, h5⟩ := h
  obtain ⟨j1, j2, j3, j4⟩ := useAll_ok h4 hn h3
  have hlen : (M ++ [n]).length = M.length + 1 := by simp
  unfold checkG
  rw [if_neg (by omega), h1 _ (List.prefix_append M [n]) (by omega), nodesGo_at (by omega)]
  have hNn : (M ++ [n])[M.length]'(by omega) = n := by simp
  have hon : outsN n = 0 := by unfold outsN; rw [if_neg (by omega), if_pos hk]
  rw [hNn, hc, if_neg (by simp), j1 _ (List.prefix_append M [n]), if_neg (by simp), if_neg ?_]
  · rw [List.drop_eq_nil_of_le (by omega), nodesGo, if_neg ?_]
    rw [j2, hon, hlen]
    omega
  · rw [Decidable.not_not, decide_eq_true hk, decide_eq_true (by omega)]
end Gv
end PartP16
section PartP17
/-! What a plan makes. -/
namespace Gv
open Go Gp
def outOf (f : List FileS) (M : List Gp.Node) : List (List Bs) := M.foldl (fun out n => out ++ [makeN n f (insOf out n.ins)]) []
theorem outOf_snoc (f : List FileS) (M : List Gp.Node) (n : Gp.Node) : outOf f (M ++ [n]) = outOf f M ++ [makeN n f (insOf (outOf f M) n.ins)] := by
  unfold outOf
  rw [List.foldl_append]
  rfl
theorem outOf_len (f : List FileS) (M : List Gp.Node) : (outOf f M).length = M.length := by
  suffices h : ∀ (M : List Gp.Node) (out : List (List Bs)), (M.foldl (fun out n => out ++ [makeN n f (insOf out n.ins)]) out).length = out.length + M.length by simpa [outOf] using h M []
  intro M
  induction M with
  | nil => intro out; rfl
  | cons n r ih =>
    intro out
    rw [List.foldl_cons, ih, List.length_append]
    simp only [List.length_cons, List.length_nil]
    omega
theorem evalGo_pre (f : List FileS) : ∀ (M rest : List Gp.Node) (out : List (List Bs)), (∀ n ∈ M, n.kind ≠ 5) → evalGo f (M ++ rest) out = evalGo f rest (M.foldl (fun out n => out ++ [makeN n f (insOf out n.ins)]) out)
  | [], rest, out, _ => rfl
  | n :: r, rest, out, h => by
    rw [List.cons_append, evalGo, if_neg (h n (List.mem_cons_self ..)), evalGo_pre f r rest _ fun x hx => h x (List.mem_cons_of_mem _ hx)]
    rfl
/-- Nodes so far; the ports not taken; what stands at them. -/
structure St (f : List FileS) (M : List Gp.Node) (cur : List Port) (vals : List Bs) : Prop where
  good : Good M cur
  val : insOf (outOf f M) cur = vals
theorem St.len {f : List FileS} {M : List Gp.Node} {cur : List Port} {vals : List Bs} (h : St f M cur vals) : vals.length = cur.length := by
  rw [← h.val]
  simp [insOf]
theorem St.node {f : List FileS} {M : List Gp.Node} {n : Gp.Node} {rest : List Port} {vi vr : List Bs} (h : St f M (n.ins ++ rest) (vi ++ vr)) (hl : vi.length = n.ins.length) (hc : checkN n = 0) (hk : n.kind ≠ 5) : St f (M ++ [n]) (rest ++ ports M.length (outsN n).toNat) (vr ++ makeN n f vi) := by
  have hv := h.val
  unfold insOf at hv
  rw [List.map_append] at hv
  obtain ⟨v1, v2⟩ := List.append_inj hv (by rw [List.length_map]; exact hl.symm)
  refine ⟨h.good.node hc hk, ?_⟩
  rw [outOf_snoc]
  have e1 : insOf (outOf f M) n.ins = vi := v1
  rw [e1]
  have hx := makeN_outs (f := f) (ins := vi) hc
  obtain ⟨x, hxe⟩ : ∃ x, makeN n f vi = x := ⟨_, rfl⟩
  rw [hxe] at hx ⊢
  have hxl : (outsN n).toNat = x.length := by omega
  rw [hxl]
  unfold insOf
  rw [List.map_append]
  congr 1
  · rw [← v2]
    refine List.map_congr_left fun p hp => ?_
    obtain ⟨o, u, -, -, -, h4⟩ := h.good.go
    obtain ⟨⟨k, o2, rfl, hk2, -⟩, -⟩ := h4 p (List.mem_append_right _ hp)
    have hk3 : k < (outOf f M).length := by rw [outOf_len]; exact hk2
    unfold portAt
    show ((outOf f M ++ [x]).getD (k : Int).toNat []).getD _ [] = ((outOf f M).getD (k : Int).toNat []).getD _ []
    rw [Int.toNat_natCast, getD_app _ _ _ hk3]
  · unfold ports
    rw [List.map_map]
    refine List.ext_getElem (by simp) fun j h1 h2 => ?_
    simp only [List.getElem_map, List.getElem_range, Function.comp]
    show ((outOf f M ++ [x]).getD (M.length : Int).toNat []).getD (j : Int).toNat [] = x[j]
    rw [Int.toNat_natCast, Int.toNat_natCast, getD_app2 _ _ _ (by rw [outOf_len]; exact Nat.le_refl _), outOf_len, Nat.sub_self]
    show x.getD j [] = x[j]
    rw [List.getD_eq_getElem?_getD, List.getElem?_eq_getElem h2]
    rfl
/-- The lines at hand. -/
def allL (vals : List Bs) : List Bs := (vals.map linesOf).flatten
def Wh (vals : List Bs) : Prop := ∀ v ∈ vals, v = put (linesOf v)
theorem wh_put {l : List Bs} (h : NoNl l) : put l = put (linesOf (put l)) := by rw [linesOf_put h]
theorem allL_no (vals : List Bs) : NoNl (allL vals) := noNl_flat fun a ha => by
  obtain ⟨b, -, rfl⟩ := List.mem_map.1 ha
  exact linesOf_no10 b
theorem one_list {α : Type} {l : List α} (h : l.length = 1) : ∃ x, l = [x] := by
  match l, h with
  | [x], _ => exact ⟨x, rfl⟩
theorem checkN_src {s : Bs} (h : isWord s = true) : checkN (srcN s) = 0 := by
  unfold checkN
  simp [srcN, errN, insN, wantN, zCmd, h]
theorem checkN_sink {s : Bs} {p : Port} (h : isWord s = true) : checkN (sinkN s [p]) = 0 := by
  unfold checkN
  simp [sinkN, errN, insN, wantN, zCmd, h]
theorem checkN_split {w : Int} {p : Port} (h : 1 ≤ w ∧ w ≤ 5) : checkN (splitN w [p]) = 0 := by
  have h1 : ¬ (w < 1 ∨ 5 < w) := by omega
  unfold checkN
  simp [splitN, errN, insN, wantN, zCmd, h1]
theorem checkN_work {c : Cmd} {p : Port} (h : checkCmd c = 0) : checkN (workN c [p]) = 0 := by
  unfold checkN
  simp [workN, errN, insN, wantN, zCmd, h]
theorem checkN_join {how : Int} {c : Cmd} {ins : List Port} (h : checkJoin how c = 0) (hl : 1 ≤ ins.length ∧ ins.length ≤ 5) : checkN (joinN how c ins) = 0 := by
  have h1 : (1 : Int) ≤ (ins.length : Int) := by omega
  have h2 : (ins.length : Int) ≤ 5 := by omega
  unfold checkN
  simp [joinN, errN, insN, wantN, zCmd, h]
  exact ⟨decide_eq_true h1, decide_eq_true h2⟩
theorem st_src {f : List FileS} {d : Desk} {vals : List Bs} (h : St f d.nodes d.cur vals) {s : Bs} (hs : isWord s = true) : St f (d.src s).nodes (d.src s).cur (vals ++ [put (linesOf (fileAt f s))]) := by
  have := St.node (n := srcN s) (rest := d.cur) (vi := []) (vr := vals) (f := f) (M := d.nodes) h rfl (checkN_src hs) (by show (1 : Int) ≠ 5; decide)
  exact this
theorem st_join {f : List FileS} {M : List Gp.Node} {cur : List Port} {vals : List Bs} (h : St f M cur vals) {how : Int} {c : Cmd} (hj : checkJoin how c = 0) (hl : 1 ≤ cur.length ∧ cur.length ≤ 5) : St f (M ++ [joinN how c cur]) [⟨M.length, 0⟩] [put (joinB how c (vals.map linesOf))] := by
  have h2 : St f M ((joinN how c cur).ins ++ []) (vals ++ []) := by
    rw [List.append_nil, List.append_nil]
    exact h
  exact St.node h2 h.len (checkN_join hj hl) (by show (4 : Int) ≠ 5; decide)
theorem st_behind {f : List FileS} {d : Desk} {vals : List Bs} (h : St f d.nodes d.cur vals) (hw : Wh vals) (hl : 1 ≤ d.cur.length ∧ d.cur.length ≤ 5) : ∃ v', St f d.behind.nodes d.behind.cur v' ∧ Wh v' ∧ allL v' = allL vals ∧ d.behind.cur.length = 1 := by
  unfold Desk.behind
  split
  · rename_i h1
    refine ⟨_, st_join h (how := 1) (c := zCmd) (by decide) hl, fun v hv => ?_, ?_, rfl⟩
    · rw [List.mem_singleton] at hv
      subst hv
      exact wh_put (allL_no vals)
    · show [linesOf (put (allL vals))].flatten = _
      rw [linesOf_put (allL_no vals)]
      simp
  · exact ⟨vals, h, hw, rfl, by omega⟩
theorem outs_cons (i : Nat) (n : Nat) : outs (i : Int) (n + 1) = ⟨i, 0⟩ :: outs ((i + 1 : Nat) : Int) n := by
  unfold outs
  rw [List.range_succ_eq_map, List.map_cons, List.map_map]
  congr 1
  simp
  intro a ha
  omega
theorem st_work {f : List FileS} {c : Cmd} (hc : checkCmd c = 0) : ∀ (l dn : List Port) (vl vd : List Bs) (M : List Gp.Node), St f M (l ++ dn) (vl ++ vd) → vl.length = l.length → St f (M ++ l.map fun p => workN c [p]) (dn ++ outs M.length l.length) (vd ++ vl.map fun v => put (linesC c (linesOf v)))
  | [], dn, [], vd, M, h, _ => by simpa [outs] using h
  | [], dn, x :: r, vd, M, h, hl => by simp at hl
  | p :: r, dn, [], vd, M, h, hl => by simp at hl
  | p :: r, dn, v :: vr, vd, M, h, hl => by
    have h1 := St.node (n := workN c [p]) (rest := r ++ dn) (vi := [v]) (vr := vr ++ vd) h rfl (checkN_work hc) (by show (3 : Int) ≠ 5; decide)
    have h2 : St f (M ++ [workN c [p]]) (r ++ (dn ++ [⟨M.length, 0⟩])) (vr ++ (vd ++ [put (linesC c (linesOf v))])) := by
      rw [← List.append_assoc, ← List.append_assoc]
      exact h1
    have h3 := st_work hc r _ vr _ _ h2 (by simpa using hl)
    rw [List.length_append, List.length_singleton] at h3
    rw [List.map_cons, List.map_cons, List.length_cons, outs_cons]
    simpa [List.append_assoc] using h3
end Gv
end PartP17
section PartP18
/-! However wide a line is planned. -/
namespace Gv
open Go Gp
theorem linesC_len4 (c : Cmd) {l : List Bs} (h : l.length ≤ 4000) : (linesC c l).length ≤ 4000 := by
  unfold linesC
  split
  · rw [(sortB_perm l).length_eq]; exact h
  split
  · exact Nat.le_trans (onceB_sublist l).length_le h
  split
  · simp
  split
  · rw [List.length_take]; omega
  split
  · rw [List.length_drop]; omega
  · exact Nat.le_trans (List.length_filterMap_le _ _) h
theorem parts_flat (l : List Bs) (n : Nat) (hn : 0 < n) : ∀ k, ((List.range k).map fun k => part l n k).flatten = l.take (k * l.length / n)
  | 0 => by simp
  | k + 1 => by
    rw [List.range_succ, List.map_append, List.flatten_append, parts_flat l n hn k, ← part_cat l n k hn]
    simp
theorem split_all {l : List Bs} (h : NoNl l) {n : Nat} (hn : 0 < n) : allL (splitLines l n) = l ∧ Wh (splitLines l n) := by
  constructor
  · unfold allL splitLines
    rw [List.map_map]
    have e : (List.range n).map (linesOf ∘ fun k => put (part l n k)) = (List.range n).map fun k => part l n k := List.map_congr_left fun k _ => linesOf_put (part_no h n k)
    rw [e, parts_flat l n hn n, Nat.mul_div_cancel_left _ hn, List.take_length]
  · intro v hv
    obtain ⟨k, -, rfl⟩ := List.mem_map.1 hv
    exact wh_put (part_no h n k)
theorem st_wide {f : List FileS} {d : Desk} {vals : List Bs} {w : Int} (h : St f d.nodes d.cur vals) (hw : Wh vals) (h5 : 1 ≤ w ∧ w ≤ 5) (hl : d.cur.length = 1 ∨ (d.cur.length : Int) = w) : ∃ v', St f (d.wide w).nodes (d.wide w).cur v' ∧ Wh v' ∧ allL v' = allL vals ∧ ((d.wide w).cur.length : Int) = w := by
  unfold Desk.wide
  split
  · exact ⟨vals, h, hw, rfl, by omega⟩
  · rename_i h1
    obtain ⟨p, hp⟩ := one_list (l := d.cur) (by omega)
    obtain ⟨v, hv⟩ := one_list (l := vals) (by rw [h.len, hp]; rfl)
    rw [hp, hv] at h
    have h2 := St.node (n := splitN w [p]) (rest := []) (vi := [v]) (vr := []) h rfl (checkN_split h5) (by show (2 : Int) ≠ 5; decide)
    have e : makeN (splitN w [p]) f [v] = splitLines (linesOf v) w.toNat := rfl
    have e2 : outsN (splitN w [p]) = w := rfl
    rw [e, e2, List.nil_append, List.nil_append] at h2
    have hs := split_all (linesOf_no10 v) (n := w.toNat) (by omega)
    rw [hp, hv]
    refine ⟨_, h2, hs.2, ?_, ?_⟩
    · rw [hs.1]
      simp [allL]
    · show ((ports _ _).length : Int) = w
      rw [ports_len]
      omega
theorem each_map {c : Cmd} (hk : each c = true) (l : List (List Bs)) : (l.map (linesC c)).flatten = linesC c l.flatten := by
  have hk : 1 ≤ c.kind ∧ c.kind ≤ 5 := by simpa [Gp.each] using hk
  have e : ∀ a, linesC c a = a.filterMap (outC c) := fun a => by
    unfold linesC
    rw [if_neg (by omega), if_neg (by omega), if_neg (by omega), if_neg (by omega), if_neg (by omega)]
  rw [e, ← filterMap_flat]
  congr 1
  exact List.map_congr_left fun a _ => e a
theorem howFor_ok {c : Cmd} (hc : checkCmd c = 0) : checkJoin (howFor c) (if howFor c = 4 then c else zCmd) = 0 := by
  have hz : checkCmd c = 0 := hc
  unfold checkJoin
  rcases kinds hc with k | k | k | k | k | k | k | k | k | k <;> simp [howFor, k, hz]
theorem work_all {c : Cmd} (hc : checkCmd c = 0) (vals : List Bs) : (vals.map fun v => put (linesC c (linesOf v))).map linesOf = (vals.map linesOf).map (linesC c) ∧ Wh (vals.map fun v => put (linesC c (linesOf v))) := by
  constructor
  · rw [List.map_map, List.map_map]
    exact List.map_congr_left fun v _ => linesOf_put (linesC_no hc (linesOf_no10 v))
  · intro v hv
    obtain ⟨x, -, rfl⟩ := List.mem_map.1 hv
    exact wh_put (linesC_no hc (linesOf_no10 x))
theorem flat_el {l : List (List Bs)} {a : List Bs} (h : a ∈ l) : a.length ≤ l.flatten.length := by
  obtain ⟨s, t, rfl⟩ := List.append_of_mem h
  simp
  omega
theorem st_step {f : List FileS} {d : Desk} {vals : List Bs} {w : Int} {c : Cmd} (h : St f d.nodes d.cur vals) (hw : Wh vals) (h5 : 1 ≤ w ∧ w ≤ 5) (hl : d.cur.length = 1 ∨ (d.cur.length : Int) = w) (hc : checkCmd c = 0) : ∃ v', St f (d.step w c).nodes (d.step w c).cur v' ∧ Wh v' ∧ ((allL vals).length ≤ 4000 → allL v' = linesC c (allL vals)) ∧ ((d.step w c).cur.length = 1 ∨ ((d.step w c).cur.length : Int) = w) := by
  obtain ⟨vw, s1, s2, s3, s4⟩ := st_wide h hw h5 hl
  have s5 := St.len s1
  have h2 : St f ((d.wide w).work c).nodes ((d.wide w).work c).cur (vw.map fun v => put (linesC c (linesOf v))) := by
    have := st_work hc (d.wide w).cur [] vw [] (d.wide w).nodes (by rw [List.append_nil, List.append_nil]; exact s1) s5
    simpa [Desk.work] using this
  obtain ⟨w1, w2⟩ := work_all hc vw
  have hcl : (((d.wide w).work c).cur.length : Int) = w := by
    show ((outs _ _).length : Int) = w
    rw [outs_len]
    exact s4
  unfold Desk.step
  split
  · rename_i he
    refine ⟨_, h2, w2, fun _ => ?_, .inr hcl⟩
    show (List.map linesOf (vw.map fun v => put (linesC c (linesOf v)))).flatten = linesC c (allL vals)
    rw [w1, ← s3]
    rcases he with he | he
    · exact each_map he _
    · obtain ⟨v, hv⟩ := one_list (l := vw) (by omega)
      rw [hv]
      simp [allL]
  · rename_i he
    have hj := st_join h2 (howFor_ok hc) (by omega)
    refine ⟨_, hj, fun v hv => ?_, fun h4 => ?_, .inl rfl⟩
    · rw [List.mem_singleton] at hv
      subst hv
      refine wh_put (joinB_no (howFor_ok hc) fun a ha => ?_)
      obtain ⟨b, -, rfl⟩ := List.mem_map.1 ha
      exact linesOf_no10 b
    · have hno : NoNl (joinB (howFor c) (if howFor c = 4 then c else zCmd) ((vw.map fun v => put (linesC c (linesOf v))).map linesOf)) := joinB_no (howFor_ok hc) fun a ha => by
        obtain ⟨b, -, rfl⟩ := List.mem_map.1 ha
        exact linesOf_no10 b
      show [linesOf (put _)].flatten = _
      rw [linesOf_put hno, w1, join_whole hc (vw.map linesOf) fun a ha => ?_]
      · rw [← s3]
        simp [allL]
      · have := flat_el ha
        rw [← s3] at h4
        unfold allL at h4
        omega
theorem st_steps {f : List FileS} {w : Int} (h5 : 1 ≤ w ∧ w ≤ 5) : ∀ (cs : List Cmd) (d : Desk) (vals : List Bs), (∀ c ∈ cs, checkCmd c = 0) → St f d.nodes d.cur vals → Wh vals → (d.cur.length = 1 ∨ (d.cur.length : Int) = w) → ∃ v', St f (steps w d cs).nodes (steps w d cs).cur v' ∧ Wh v' ∧ ((allL vals).length ≤ 4000 → allL v' = doLines cs (allL vals)) ∧ ((steps w d cs).cur.length = 1 ∨ ((steps w d cs).cur.length : Int) = w)
  | [], d, vals, _, h, hw, hl => ⟨vals, h, hw, fun _ => rfl, hl⟩
  | c :: r, d, vals, hc, h, hw, hl => by
    obtain ⟨v1, a1, a2, a3, a4⟩ := st_step h hw h5 hl (hc c (List.mem_cons_self ..))
    obtain ⟨v2, b1, b2, b3, b4⟩ := st_steps h5 r _ v1 (fun x hx => hc x (List.mem_cons_of_mem _ hx)) a1 a2 a4
    refine ⟨v2, b1, b2, fun h4 => ?_, b4⟩
    have e := a3 h4
    rw [b3 (by rw [e]; exact linesC_len4 c h4), e]
    rfl
theorem st_srcs {f : List FileS} : ∀ (l : List Bs) (d : Desk) (vals : List Bs), (∀ s ∈ l, isWord s = true) → St f d.nodes d.cur vals → Wh vals → ∃ v', St f (l.foldl Desk.src d).nodes (l.foldl Desk.src d).cur v' ∧ Wh v' ∧ allL v' = allL vals ++ (l.map fun s => linesOf (fileAt f s)).flatten ∧ (l.foldl Desk.src d).cur.length = d.cur.length + l.length
  | [], d, vals, _, h, hw => ⟨vals, h, hw, by simp, by simp⟩
  | s :: r, d, vals, hs, h, hw => by
    have h1 := st_src h (hs s (List.mem_cons_self ..))
    have hw1 : Wh (vals ++ [put (linesOf (fileAt f s))]) := fun v hv => by
      rcases List.mem_append.1 hv with hv | hv
      · exact hw v hv
      · rw [List.mem_singleton] at hv
        subst hv
        exact wh_put (linesOf_no10 _)
    obtain ⟨v2, b1, b2, b3, b4⟩ := st_srcs r _ _ (fun x hx => hs x (List.mem_cons_of_mem _ hx)) h1 hw1
    refine ⟨v2, b1, b2, ?_, ?_⟩
    · rw [b3]
      simp [allL, linesOf_put (linesOf_no10 (fileAt f s))]
    · rw [List.foldl_cons, b4]
      simp [Desk.src]
      omega
theorem gatherGo_ok {f : List FileS} : ∀ (l : List Bs) (a : List Bs) {x : Bs}, gatherGo f (put a) l = (x, 0) → x = put (a ++ (l.map fun s => linesOf (fileAt f s)).flatten)
  | [], a, x, h => by
    simp only [gatherGo, Prod.mk.injEq, and_true] at h
    rw [← h]
    simp
  | s :: r, a, x, h => by
    rw [gatherGo] at h
    split at h
    · cases h
    · have e : put a ++ whole (fileAt f s) = put (a ++ linesOf (fileAt f s)) := by rw [put_append]; rfl
      rw [e] at h
      rw [gatherGo_ok r _ h]
      simp
/-- What a right plan makes. -/
theorem plan_makes {l : LineS} {w : Int} (hc : checkLine l = 0) (h5 : 1 ≤ w ∧ w ≤ 5) (f : List FileS) : checkG (planNodes l w) = 0 ∧ ∃ v, evalGo f (planNodes l w) [] = (v, 0) ∧ ((l.frm.map fun s => linesOf (fileAt f s)).flatten.length ≤ 4000 → v = put (doLines l.cmds (l.frm.map fun s => linesOf (fileAt f s)).flatten)) := by
  obtain ⟨hf, hw, hto, hcm⟩ : (1 ≤ l.frm.length ∧ l.frm.length ≤ 4 ∧ l.cmds.length ≤ 6) ∧ (∀ s ∈ l.frm, isWord s = true) ∧ isWord l.to = true ∧ ∀ c ∈ l.cmds, checkCmd c = 0 := by
    unfold checkLine at hc
    split at hc
    · cases hc
    · rename_i h1
      split at hc
      · cases hc
      · rename_i h2
        have h2 : (l.frm ++ [l.to]).all isWord = true := by simpa using h2
        rw [List.all_eq_true] at h2
        exact ⟨by omega, fun s hs => h2 s (List.mem_append_left _ hs), h2 _ (by simp), firstBad_at hc⟩
  have s0 : St f (⟨[], []⟩ : Desk).nodes (⟨[], []⟩ : Desk).cur [] := ⟨good_0, rfl⟩
  obtain ⟨v1, a1, a2, a3, a4⟩ := st_srcs l.frm ⟨[], []⟩ [] hw s0 (fun v hv => by simp at hv)
  have a4 : (srcs l.frm).cur.length = l.frm.length := by
    have := a4
    simpa [srcs] using this
  obtain ⟨v2, b1, b2, b3, b4⟩ := st_behind (d := srcs l.frm) a1 a2 (by omega)
  obtain ⟨v3, c1, c2, c3, c4⟩ := st_steps h5 l.cmds _ v2 hcm b1 b2 (.inl b4)
  obtain ⟨v4, d1, d2, d3, d4⟩ := st_behind c1 c2 (by omega)
  have hD := (steps_ok (l := l) ⟨hf.1, hf.2.1⟩ h5 l.cmds.length (Nat.le_refl _)).len
  rw [List.take_length] at hD
  have hlen : (planDesk l w).nodes.length < 60 := by
    have hb : ∀ d : Desk, d.nodes.length ≤ 47 → d.behind.nodes.length < 60 := fun d hd => by
      unfold Desk.behind
      split
      · show (d.nodes ++ [_]).length < 60
        rw [List.length_append, List.length_singleton]; omega
      · omega
    exact hb _ (by omega)
  obtain ⟨p, hp⟩ := one_list d4
  obtain ⟨v, hv⟩ := one_list (l := v4) (by rw [d1.len]; exact d4)
  rw [hv] at d1 d2 d3
  have hg := d1.good
  have hck : checkN (sinkN l.to (planDesk l w).cur) = 0 := by
    show checkN (sinkN l.to ((steps w (srcs l.frm).behind l.cmds).behind).cur) = 0
    rw [hp]
    exact checkN_sink hto
  refine ⟨Good.sink (n := sinkN l.to (planDesk l w).cur) hg hck rfl hlen, v, ?_, fun h4 => ?_⟩
  · unfold planNodes
    have hno : ∀ n ∈ (planDesk l w).nodes, n.kind ≠ 5 := hg.no5
    rw [evalGo_pre f _ _ _ hno]
    show evalGo f [_] (outOf f (planDesk l w).nodes) = _
    rw [evalGo, if_pos (show (sinkN l.to (planDesk l w).cur).kind = 5 from rfl)]
    show ((insOf (outOf f (planDesk l w).nodes) (planDesk l w).cur).getD 0 [], _) = _
    have e : insOf (outOf f (planDesk l w).nodes) (planDesk l w).cur = [v] := d1.val
    rw [e]
    rfl
  · have e1 : allL v1 = (l.frm.map fun s => linesOf (fileAt f s)).flatten := by rw [a3]; simp [allL]
    have e2 : allL [v] = linesOf v := by simp [allL]
    have e3 := c3 (by rw [b3, e1]; exact h4)
    rw [d2 v (List.mem_singleton.2 rfl), ← e2, d3, e3, b3, e1]
end Gv
end PartP18
section PartDoor
/-! What a row that lists variables, and the world's shape, give a law. -/
namespace Gv
open Go Go.Proofs Go.ChangeShapes
/-- What lies in the world at the call stays. -/
abbrev worldGlob (W : World) : Glob := ⟨all W⟩
theorem worldGlob_le (W : World) : (worldGlob W).mem.Le (all W) := fun b o h => h
theorem all_cell {W w : World} (h : Gw.Sub (all W) w) {a : Addr} {v : Value} (e : W.cell? a = some v) : w.cell? a = some v := by
  unfold World.cell? at e ⊢
  split at e
  · rename_i c x y hb
    rw [h _ _ hb]
    exact e
  · cases e
theorem all_int {P : Program} {W : World} {g : Nat} {t : TypeId} {zero : Array Value} {k : IntKind} (h : W.ShapedOpen P) (hg : g < P.globals.size) (h0 : ((begin P (fun _ _ => 0) default).world.heap[g]?).bind Obj.row? = some (zero, t)) (hz : zero.size = 1)
    (hb : P.buildable t = true) (hc : P.cellTypes P.depth t = some [t]) (hu : P.underlying t = some (.int k)) : ∀ w, Gw.Sub (all W) w → ∃ n, w.cell? ⟨g, 0, none⟩ = some (.int k n) := fun w hw => by
  obtain ⟨n, hn⟩ := cell_of_shapedOpen_int h hg h0 hz hb hc hu
  exact ⟨n, all_cell hw hn⟩
theorem all_var {P : Program} {W w : World} (h : Gw.Sub (all W) w) {n : String} {cs : Array Value} (e : W.var? P n = some cs) : w.var? P n = some cs := by
  unfold World.var? at e ⊢
  cases hg : P.globalNamed n with
  | none => rw [hg] at e; cases e
  | some g =>
    rw [hg] at e
    simp only [Option.bind_some] at e ⊢
    cases hb : W.heap[g]? with
    | none => rw [hb] at e; cases e
    | some o => rw [hb] at e; rw [h g o hb]; exact e
theorem all_tab {P : Program} {W : World} {n : String} {k : IntKind} {zs : List Int} (h : Lib.TabIs P W n k zs) : ∀ w, Gw.Sub (all W) w → Lib.TabIs P w n k zs := fun w hw => all_var hw h
theorem len_bytes {P : Program} {e : TypeId} {n : Nat} (hb : P.bytesOf e = 1) (h : n * P.bytesOf e ≤ reachBytes) : n ≤ 140737488355328 := by
  rw [hb, Nat.mul_one] at h
  exact Nat.le_trans h (by decide)
/-- The wrap: what the row lists, and the world's shape. -/
theorem returns_both {H : Type} {enc : TypeId × Value → H} {a : Assume} {C : Checked} {os : Os} {f : FuncId} {fn : Func} {s : ChangeSpec} {conds : List PathCond} {apart fresh handsOn again : Bool} {X : World → Array Value → Prop}
    (hX : ∀ (w w' : World) (args : Array Value), w.heap = w'.heap → X w args → X w' args)
    (own : ownKnob C.prog.godebug = none) (started : os.Started) (noInit : C.prog.inits.idxOf? f = none) (hfn : C.prog.funcs[f]? = some fn)
    (witness : ∃ (w : World) (tape : Tape) (i : Input), w.os = os ∧ (w.forCall tape i).Shaped C.prog ∧ i.vars = [] ∧ Input.okWide C.prog (w.forCall tape i) .any w.heap.size f i ∧
      ((s.pre enc C.prog fn conds apart (w.forCall tape i).memory i.args ∧ X (w.forCall tape i).memory i.args) ∧ sizedMet enc C.prog fn (OpenSpec.ofChange s) apart (w.forCall tape i).memory i.args) ∧ a.holds C.prog (lone (Frame.enter C.prog f i.args .normal) [] (w.forCall tape i)))
    (contract : ∀ (W : World) (base : Nat) (args : Array Value) (ds gs : List (DataW H)) (before : List MemPlace),
      (∀ (j : Nat) t v, fn.params[j]? = some t → args[j]? = some v → Value.okWide C.prog W .any base t v) →
      DataW.Whole enc C.prog fn.params.toList s.vars apart W args.toList ds gs before →
      (DataW.weightsEach C.prog (fn.params.toList ++ s.plain.varTypes C.prog) (ds ++ gs)).all (· ≤ reachBytes) = true → X W args → W.ShapedOpen C.prog →
      Calls C.prog f args W fun e W' => ∃ v, e = .returned v ∧ s.post enc C.prog fn apart fresh handsOn again W args v W') :
    ReturnsInHanded a C os f .any (fun w args => (s.pre enc C.prog fn conds apart w args ∧ X w args) ∧ sizedMet enc C.prog fn (OpenSpec.ofChange s) apart w args) (s.post enc C.prog fn apart fresh handsOn again) := by
  refine returnsInHanded_of_calls own started noInit witness ?_
  intro w tape i _ hsh _ hok hpre _
  obtain ⟨_, _, _, fn', hfn', _, _, _, _, hval⟩ := hok
  have e : fn' = fn := Option.some.inj (hfn'.symm.trans hfn)
  subst e
  obtain ⟨⟨⟨ds, gs, before, hw, hc⟩, hx⟩, hz⟩ := hpre
  have hw' := DataW.Whole.of_heap (w' := w.forCall tape i) (by rfl) hw
  refine (contract (w.forCall tape i) w.heap.size i.args ds gs before hval hw' (hz.weights hw) (hX _ _ _ (by rfl) hx) hsh).mono fun e W' ⟨v, he, hp⟩ => ?_
  subst he
  exact ChangeSpec.post_blind hp
end Gv
end PartDoor
