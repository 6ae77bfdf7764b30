/- A calculus of what functions come to, part d: what is said holds in every world; conditions stand in each theorem. -/
import Derived.HandedShaped
import Derived.LaidMore
import Derived.Laws.Externs
import Derived.Laws.IdiomCopy
import Derived.Lib.AppendStr
import Derived.Lib.AtoiAllCases
import Derived.Lib.Builder
import Derived.Lib.IndexBytes
import Derived.Lib.IndexLaws
import Derived.Lib.ItoaLen
import Derived.Lib.ItoaMem
import Derived.Lib.ItoaNum
import Derived.Lib.Join
import Derived.Lib.LaidTab
import Derived.Lib.Replace
import Derived.Lib.SlTrimSet
import Derived.Lib.SlicesCompact
import Derived.Lib.SplitLaws
import Derived.Lib.UnsafeStr
import Derived.OwnWalk
import Derived.Shelf.RegionOpenPlain
import Derived.Shelf.Vars
import Derived.Sort.EncStr
import Derived.Sort.Grow
import Derived.Sort.OwnSorted
import Derived.Sort.Walk0
import Derived.Stop.LaidErr
import Derived.Test.YtffljdmmambdjaaDoorVc
import Derived.WalkKit
set_option linter.unusedVariables false
set_option linter.unusedSimpArgs false
set_option linter.unusedSectionVars false
section PartP1
/-! Lines, in plain words. -/
namespace Gp
abbrev Bs := List UInt8
/-- Lines, each with an end. -/
def put : List Bs → Bs
  | [] => []
  | s :: r => s ++ 10 :: put r
def lineGo : Bs → Bs → List Bs
  | acc, [] => if acc = [] then [] else [acc]
  | acc, c :: r => if c = 10 then acc :: lineGo [] r else lineGo (acc ++ [c]) r
/-- Lines of bytes. -/
def linesOf (b : Bs) : List Bs := lineGo [] b
def whole (b : Bs) : Bs := put (linesOf b)
def NoNl (l : List Bs) : Prop := ∀ s ∈ l, (10 : UInt8) ∉ s
theorem put_append (a b : List Bs) : put (a ++ b) = put a ++ put b := by
  induction a with
  | nil => rfl
  | cons s r ih => simp [put, ih]
theorem put_snoc (l : List Bs) (s : Bs) : put (l ++ [s]) = put l ++ (s ++ [10]) := by
  rw [put_append]; rfl
theorem put_take_succ {l : List Bs} {i : Nat} (h : i < l.length) : put (l.take (i + 1)) = put (l.take i) ++ (l[i] ++ [10]) := by
  rw [List.take_succ_eq_append_getElem h, put_snoc]
theorem put_take_le (l : List Bs) (i : Nat) : (put (l.take i)).length ≤ (put l).length := by
  have := congrArg (fun a => (put a).length) (List.take_append_drop i l)
  simp only [put_append, List.length_append] at this
  omega
/-- The first line feed. -/
theorem nl_cases (b : Bs) : (10 : UInt8) ∉ b ∨ ∃ a r, b = a ++ 10 :: r ∧ (10 : UInt8) ∉ a := by
  induction b with
  | nil => exact .inl (by simp)
  | cons c b ih =>
    by_cases h : c = 10
    · subst h
      exact .inr ⟨[], b, rfl, by simp⟩
    · rcases ih with ih | ⟨a, r, rfl, ha⟩
      · exact .inl (by simp [ih, Ne.symm h])
      · exact .inr ⟨c :: a, r, rfl, by simp [ha, Ne.symm h]⟩
theorem lineGo_nl {a : Bs} (h : (10 : UInt8) ∉ a) (r : Bs) : ∀ acc, lineGo acc (a ++ 10 :: r) = (acc ++ a) :: linesOf r := by
  induction a with
  | nil => intro acc; simp [lineGo, linesOf]
  | cons c a ih =>
    intro acc
    simp only [List.mem_cons, not_or] at h
    show lineGo acc (c :: (a ++ 10 :: r)) = _
    unfold lineGo
    rw [if_neg (fun e => h.1 e.symm), ih h.2]
    simp
theorem lineGo_no {a : Bs} (h : (10 : UInt8) ∉ a) : ∀ acc, lineGo acc a = if acc ++ a = [] then [] else [acc ++ a] := by
  induction a with
  | nil => intro acc; simp [lineGo]
  | cons c a ih =>
    intro acc
    simp only [List.mem_cons, not_or] at h
    unfold lineGo
    rw [if_neg (fun e => h.1 e.symm), ih h.2]
    simp
theorem linesOf_nl {a : Bs} (h : (10 : UInt8) ∉ a) (r : Bs) : linesOf (a ++ 10 :: r) = a :: linesOf r := by
  unfold linesOf
  rw [lineGo_nl h]; rfl
theorem linesOf_no {a : Bs} (h : (10 : UInt8) ∉ a) (h0 : a ≠ []) : linesOf a = [a] := by
  unfold linesOf
  rw [lineGo_no h]; simp [h0]
theorem linesOf_nil : linesOf [] = [] := rfl
theorem linesOf_append {l : List Bs} (h : NoNl l) (b : Bs) : linesOf (put l ++ b) = l ++ linesOf b := by
  induction l with
  | nil => rfl
  | cons s r ih =>
    have := ih (fun x hx => h x (by simp [hx]))
    show linesOf (s ++ 10 :: put r ++ b) = _
    rw [List.append_assoc, List.cons_append, linesOf_nl (h s (by simp)), this]
    rfl
theorem linesOf_put {l : List Bs} (h : NoNl l) : linesOf (put l) = l := by
  have := linesOf_append h []
  simpa [linesOf_nil] using this
/-- By the first line feed. -/
theorem line_ind {P : Bs → Prop} (h0 : P []) (h1 : ∀ a, (10 : UInt8) ∉ a → a ≠ [] → P a) (h2 : ∀ a r, (10 : UInt8) ∉ a → P r → P (a ++ 10 :: r)) : ∀ b, P b := by
  intro b
  generalize hn : b.length = n
  induction n using Nat.strongRecOn generalizing b with
  | ind n ih =>
    rcases nl_cases b with h | ⟨a, r, rfl, ha⟩
    · by_cases hb : b = []
      · subst hb; exact h0
      · exact h1 b h hb
    · refine h2 a r ha (ih r.length ?_ r rfl)
      subst hn
      simp
      omega
theorem linesOf_no10 (b : Bs) : NoNl (linesOf b) := by
  induction b using line_ind with
  | h0 => intro s hs; cases hs
  | h1 a h h0 => rw [linesOf_no h h0]; intro s hs; simp at hs; subst hs; exact h
  | h2 a r h ih =>
    rw [linesOf_nl h]
    intro s hs
    rcases List.mem_cons.1 hs with rfl | hs
    · exact h
    · exact ih s hs
/-- Is the last line ended? -/
def ended (b : Bs) : Prop := b = [] ∨ b.getLast? = some 10
theorem put_ended (l : List Bs) : ended (put l) := by
  induction l with
  | nil => exact .inl rfl
  | cons s r ih =>
    right
    show (s ++ 10 :: put r).getLast? = _
    rcases ih with h | h
    · rw [h]; simp
    · rw [List.getLast?_append, List.getLast?_cons, h]; simp
theorem whole_eq (b : Bs) : whole b = b ∧ ended b ∨ whole b = b ++ [10] ∧ ¬ ended b := by
  induction b using line_ind with
  | h0 => exact .inl ⟨rfl, .inl rfl⟩
  | h1 a h h0 =>
    right
    unfold whole
    rw [linesOf_no h h0]
    refine ⟨rfl, ?_⟩
    rintro (h1 | h1)
    · exact h0 h1
    · exact h (List.mem_of_getLast? h1)
  | h2 a r h ih =>
    unfold whole at ih ⊢
    rw [linesOf_nl h]
    rcases ih with ⟨e1, e2⟩ | ⟨e1, e2⟩
    · left
      refine ⟨by rw [put, e1], .inr ?_⟩
      rcases e2 with e2 | e2
      · rw [e2]; simp
      · rw [List.getLast?_append, List.getLast?_cons, e2]; simp
    · right
      refine ⟨by rw [put, e1]; simp, ?_⟩
      rintro (h1 | h1)
      · simp at h1
      · apply e2
        by_cases hr : r = []
        · exact .inl hr
        · right
          rw [List.getLast?_append, List.getLast?_cons] at h1
          cases hl : r.getLast? with
          | none => exact absurd (List.getLast?_eq_none_iff.1 hl) hr
          | some x => rw [hl] at h1; simpa using h1
theorem whole_len (b : Bs) : (whole b).length ≤ b.length + 1 := by
  rcases whole_eq b with h | h <;> rw [h.1] <;> simp
theorem put_len {l : List Bs} {n : Nat} (h : (put l).length ≤ n) : l.length ≤ n := by
  induction l generalizing n with
  | nil => simp
  | cons s r ih =>
    simp only [put, List.length_append, List.length_cons] at h ⊢
    have := ih (n := n - 1) (by omega)
    omega
theorem linesOf_len (b : Bs) : (linesOf b).length ≤ b.length := by
  induction b using line_ind with
  | h0 => simp [linesOf_nil]
  | h1 a h h0 =>
    rw [linesOf_no h h0]
    have : a.length ≠ 0 := fun e => h0 (List.length_eq_zero_iff.1 e)
    simp; omega
  | h2 a r h ih => rw [linesOf_nl h]; simp; omega
theorem linesOf_el (b : Bs) : ∀ s ∈ linesOf b, s.length ≤ b.length := by
  induction b using line_ind with
  | h0 => intro s hs; cases hs
  | h1 a h h0 => rw [linesOf_no h h0]; intro s hs; simp at hs; subst hs; exact Nat.le_refl _
  | h2 a r h ih =>
    rw [linesOf_nl h]
    intro s hs
    rcases List.mem_cons.1 hs with rfl | hs
    · simp
    · have := ih s hs
      simp; omega
theorem put_len_el {l : List Bs} {s : Bs} (h : s ∈ l) : s.length + 1 ≤ (put l).length := by
  induction l with
  | nil => cases h
  | cons x r ih =>
    simp only [put, List.length_append, List.length_cons]
    rcases List.mem_cons.1 h with rfl | h
    · omega
    · have := ih h
      omega
/-- Cut at the first line feed. -/
def cutNl (b : Bs) : Bs × Bs × Bool := (b.takeWhile (· != 10), (b.dropWhile (· != 10)).tail, b.contains 10)
theorem cutNl_no {b : Bs} (h : (10 : UInt8) ∉ b) : cutNl b = (b, [], false) := by
  have h1 : b.takeWhile (· != 10) = b := by
    have := List.takeWhile_append_of_pos (p := (· != (10 : UInt8))) (l₁ := b) (l₂ := []) (fun x hx => by
      have : x ≠ 10 := fun e => h (e ▸ hx)
      simpa using this)
    simpa using this
  have h2 : b.dropWhile (· != 10) = [] := by
    have := List.takeWhile_append_dropWhile (p := (· != (10 : UInt8))) (l := b)
    rw [h1] at this
    simpa using this
  unfold cutNl
  rw [h1, h2]
  simpa using h
theorem cutNl_nl {a : Bs} (h : (10 : UInt8) ∉ a) (r : Bs) : cutNl (a ++ 10 :: r) = (a, r, true) := by
  have hp : ∀ x ∈ a, (x != 10) = true := fun x hx => by
    have : x ≠ 10 := fun e => h (e ▸ hx)
    simpa using this
  unfold cutNl
  rw [List.takeWhile_append_of_pos hp, List.dropWhile_append_of_pos hp]
  simp
theorem linesOf_cut {b : Bs} (h : b ≠ []) : linesOf b = (cutNl b).1 :: linesOf (cutNl b).2.1 := by
  rcases nl_cases b with h1 | ⟨a, r, rfl, ha⟩
  · rw [cutNl_no h1, linesOf_no h1 h]; rfl
  · rw [cutNl_nl ha, linesOf_nl ha]
theorem cut_len {b : Bs} (h : b ≠ []) : (cutNl b).2.1.length < b.length ∧ (cutNl b).1.length ≤ b.length := by
  rcases nl_cases b with h1 | ⟨a, r, rfl, ha⟩
  · rw [cutNl_no h1]
    exact ⟨by simpa using List.length_pos_iff.2 h, Nat.le_refl _⟩
  · rw [cutNl_nl ha]
    simp; omega
/-- Parts of whole lines. -/
def part (l : List Bs) (n k : Nat) : List Bs := (l.take ((k + 1) * l.length / n)).drop (k * l.length / n)
def splitLines (l : List Bs) (n : Nat) : List Bs := (List.range n).map fun k => put (part l n k)
theorem part_bnd (m n k : Nat) (hn : 0 < n) : k * m / n + m / n ≤ (k + 1) * m / n ∧ (k + 1) * m / n ≤ k * m / n + m / n + 1 := by
  have e1 := Nat.div_add_mod (k * m) n
  have e2 := Nat.mod_lt (k * m) hn
  have e3 := Nat.div_add_mod m n
  have e4 := Nat.mod_lt m hn
  have e5 := Nat.div_add_mod ((k + 1) * m) n
  have e6 := Nat.mod_lt ((k + 1) * m) hn
  have e7 : (k + 1) * m = k * m + m := by rw [Nat.succ_mul]
  rw [e7] at e5 e6 ⊢
  generalize k * m = a at *
  generalize ha : a / n = qa at *
  generalize hm : m / n = qm at *
  generalize hs : (a + m) / n = qs at *
  generalize a % n = ra at *
  generalize m % n = rm at *
  generalize (a + m) % n = rs at *
  constructor
  · apply Nat.le_of_lt_succ
    apply Nat.lt_of_mul_lt_mul_left (a := n)
    rw [Nat.mul_add, Nat.mul_succ]
    omega
  · apply Nat.le_of_lt_succ
    apply Nat.lt_of_mul_lt_mul_left (a := n)
    have : n * (qa + qm + 1).succ = n * qa + n * qm + n + n := by
      rw [Nat.mul_succ, Nat.mul_add, Nat.mul_add]; omega
    rw [this]
    omega
theorem part_len (l : List Bs) (n k : Nat) (hn : 0 < n) (hk : k < n) : l.length / n ≤ (part l n k).length ∧ (part l n k).length ≤ l.length / n + 1 ∧ (part l n k).length ≤ l.length := by
  have h1 := part_bnd l.length n k hn
  have h2 : (k + 1) * l.length / n ≤ l.length := by
    apply Nat.div_le_of_le_mul
    exact Nat.mul_le_mul_right _ hk
  unfold part
  simp only [List.length_drop, List.length_take]
  generalize k * l.length / n = a at *
  generalize (k + 1) * l.length / n = b at *
  generalize l.length / n = c at *
  omega
theorem part_cat (l : List Bs) (n k : Nat) (hn : 0 < n) : l.take (k * l.length / n) ++ part l n k = l.take ((k + 1) * l.length / n) := by
  have h1 := part_bnd l.length n k hn
  unfold part
  have : l.take (k * l.length / n) = (l.take ((k + 1) * l.length / n)).take (k * l.length / n) := by
    rw [List.take_take]; congr 1
    generalize k * l.length / n = a at *
    generalize (k + 1) * l.length / n = b at *
    generalize l.length / n = c at *
    omega
  rw [this, List.take_append_drop]
theorem part_no {l : List Bs} (h : NoNl l) (n k : Nat) : NoNl (part l n k) := fun s hs => h s (List.mem_of_mem_take (List.mem_of_mem_drop hs))
end Gp
end PartP1
section PartP2
/-! Commands, lines of a script, graphs, plans: in plain words. -/
namespace Gp
structure Cmd where
  kind : Int
  word : Bs
  n : Int
  deriving DecidableEq
structure LineS where
  frm : List Bs
  cmds : List Cmd
  to : Bs
  deriving DecidableEq
structure Port where
  node : Int
  out : Int
  deriving DecidableEq
structure Node where
  kind : Int
  file : Bs
  c : Cmd
  how : Int
  wide : Int
  ins : List Port
  deriving DecidableEq
def wordByte (c : UInt8) : Bool := (decide (97 ≤ c.toNat) && decide (c.toNat ≤ 122)) || (decide (48 ≤ c.toNat) && decide (c.toNat ≤ 57))
def isWord (s : Bs) : Bool := decide (s ≠ []) && decide (s.length ≤ 12) && s.all wordByte
def useWord (c : Cmd) : Bool := decide (c.kind = 1) || decide (c.kind = 2) || decide (c.kind = 3)
def useN (c : Cmd) : Bool := decide (c.kind = 4) || decide (c.kind = 9) || decide (c.kind = 10)
def checkCmd (c : Cmd) : Int :=
  if c.kind < 1 ∨ 10 < c.kind then 4
  else if (useWord c = false ∧ c.word ≠ []) ∨ (useN c = false ∧ c.n ≠ 0) then 4
  else if useN c = true ∧ (c.n < 1 ∨ 1000 < c.n) then 3
  else if (useWord c = true ∧ isWord c.word = false) ∨ (c.kind = 3 ∧ c.word.length ≠ 2) then 1
  else 0
def firstBad : List Cmd → Int
  | [] => 0
  | c :: r => if checkCmd c = 0 then firstBad r else checkCmd c
def checkLine (l : LineS) : Int :=
  if l.frm.length = 0 ∨ 4 < l.frm.length ∨ 6 < l.cmds.length then 2
  else if (l.frm ++ [l.to]).all isWord = false then 1
  else firstBad l.cmds
def each (c : Cmd) : Bool := decide (1 ≤ c.kind) && decide (c.kind ≤ 5)
def howFor (c : Cmd) : Int := if c.kind = 6 then 2 else if c.kind = 8 then 3 else if c.kind = 7 ∨ c.kind = 9 ∨ c.kind = 10 then 4 else 1
theorem firstBad_at : ∀ {l : List Cmd}, firstBad l = 0 → ∀ c ∈ l, checkCmd c = 0
  | [], h, c, hc => by cases hc
  | c :: r, h, x, hx => by
    unfold firstBad at h
    split at h
    · rename_i h1
      rcases List.mem_cons.1 hx with rfl | hx
      · exact h1
      · exact firstBad_at h x hx
    · rename_i h1; exact absurd h h1
/-! ### Plans -/
def zCmd : Cmd := ⟨0, [], 0⟩
def srcN (f : Bs) : Node := ⟨1, f, zCmd, 0, 0, []⟩
def splitN (w : Int) (ins : List Port) : Node := ⟨2, [], zCmd, 0, w, ins⟩
def workN (c : Cmd) (ins : List Port) : Node := ⟨3, [], c, 0, 0, ins⟩
def joinN (how : Int) (c : Cmd) (ins : List Port) : Node := ⟨4, [], c, how, 0, ins⟩
def sinkN (f : Bs) (ins : List Port) : Node := ⟨5, f, zCmd, 0, 0, ins⟩
structure Desk where
  nodes : List Node
  cur : List Port
def Desk.src (d : Desk) (f : Bs) : Desk := ⟨d.nodes ++ [srcN f], d.cur ++ [⟨d.nodes.length, 0⟩]⟩
def Desk.behind (d : Desk) : Desk := if 1 < d.cur.length then ⟨d.nodes ++ [joinN 1 zCmd d.cur], [⟨d.nodes.length, 0⟩]⟩ else d
def ports (i : Int) (n : Nat) : List Port := (List.range n).map fun (k : Nat) => ⟨i, (k : Int)⟩
def outs (i : Int) (n : Nat) : List Port := (List.range n).map fun (k : Nat) => ⟨i + (k : Int), 0⟩
def Desk.wide (d : Desk) (n : Int) : Desk := if 1 < d.cur.length ∨ n = 1 then d else ⟨d.nodes ++ [splitN n d.cur], ports d.nodes.length n.toNat⟩
def Desk.work (d : Desk) (c : Cmd) : Desk := ⟨d.nodes ++ d.cur.map fun p => workN c [p], outs d.nodes.length d.cur.length⟩
def Desk.fin (d : Desk) (c : Cmd) : Desk := ⟨d.nodes ++ [joinN (howFor c) (if howFor c = 4 then c else zCmd) d.cur], [⟨d.nodes.length, 0⟩]⟩
def Desk.step (wide : Int) (d : Desk) (c : Cmd) : Desk := if each c = true ∨ wide = 1 then (d.wide wide).work c else ((d.wide wide).work c).fin c
def srcs (l : List Bs) : Desk := l.foldl Desk.src ⟨[], []⟩
def steps (wide : Int) (d : Desk) (l : List Cmd) : Desk := l.foldl (Desk.step wide) d
def planDesk (l : LineS) (wide : Int) : Desk := (steps wide (srcs l.frm).behind l.cmds).behind
def planNodes (l : LineS) (wide : Int) : List Node := (planDesk l wide).nodes ++ [sinkN l.to (planDesk l wide).cur]
def plan (l : LineS) (wide : Int) : List Node × Int :=
  if checkLine l ≠ 0 then ([], checkLine l) else if wide < 1 ∨ 5 < wide then ([], 3) else (planNodes l wide, 0)
theorem ports_len (i : Int) (n : Nat) : (ports i n).length = n := by simp [ports]
theorem outs_len (i : Int) (n : Nat) : (outs i n).length = n := by simp [outs]
theorem ports_succ (i : Int) (n : Nat) : ports i (n + 1) = ports i n ++ [⟨i, (n : Int)⟩] := by simp [ports, List.range_succ]
theorem outs_succ (i : Int) (n : Nat) : outs i (n + 1) = outs i n ++ [⟨i + (n : Int), 0⟩] := by simp [outs, List.range_succ]
theorem srcs_take {l : List Bs} {i : Nat} (h : i < l.length) : srcs (l.take (i + 1)) = (srcs (l.take i)).src l[i] := by
  unfold srcs
  rw [List.take_succ_eq_append_getElem h, List.foldl_append]
  rfl
theorem steps_take {w : Int} {d : Desk} {l : List Cmd} {i : Nat} (h : i < l.length) : steps w d (l.take (i + 1)) = (steps w d (l.take i)).step w l[i] := by
  unfold steps
  rw [List.take_succ_eq_append_getElem h, List.foldl_append]
  rfl
/-- How many nodes are of a kind. -/
def cnt (k : Int) (l : List Node) : Nat := (l.filter fun n => decide (n.kind = k)).length
theorem cnt_append (k : Int) (a b : List Node) : cnt k (a ++ b) = cnt k a + cnt k b := by simp [cnt]
theorem cnt_snoc (k : Int) (a : List Node) (n : Node) : cnt k (a ++ [n]) = cnt k a + (if n.kind = k then 1 else 0) := by
  rw [cnt_append]
  by_cases h : n.kind = k <;> simp [cnt, h]
theorem cnt_work (k : Int) (c : Cmd) (l : List Port) : cnt k (l.map fun p => workN c [p]) = if k = 3 then l.length else 0 := by
  induction l with
  | nil => simp [cnt]
  | cons p l ih =>
    rw [List.map_cons, show (workN c [p] :: l.map fun p => workN c [p]) = [workN c [p]] ++ l.map (fun p => workN c [p]) from rfl, cnt_append, ih]
    by_cases h : k = 3
    · subst h; simp [cnt, workN]; omega
    · have h' : ¬ (3 : Int) = k := fun e => h e.symm
      simp [cnt, workN, h, h']
theorem srcs_len (l : List Bs) : (srcs l).nodes.length = l.length ∧ (srcs l).cur.length = l.length ∧ ∀ k, cnt k (srcs l).nodes = if k = 1 then l.length else 0 := by
  suffices h : ∀ (l : List Bs) (d : Desk), (l.foldl Desk.src d).nodes.length = d.nodes.length + l.length ∧ (l.foldl Desk.src d).cur.length = d.cur.length + l.length ∧ ∀ k, cnt k (l.foldl Desk.src d).nodes = cnt k d.nodes + if k = 1 then l.length else 0 by
    have := h l ⟨[], []⟩
    simpa [srcs, cnt] using this
  intro l
  induction l with
  | nil => intro d; simp
  | cons f l ih =>
    intro d
    obtain ⟨h1, h2, h3⟩ := ih (d.src f)
    refine ⟨?_, ?_, fun k => ?_⟩
    · rw [List.foldl_cons, h1]; simp [Desk.src]; omega
    · rw [List.foldl_cons, h2]; simp [Desk.src]; omega
    · rw [List.foldl_cons, h3]
      simp only [Desk.src, cnt_snoc, srcN, List.length_cons]
      by_cases h : k = 1
      · subst h; simp; omega
      · have h' : ¬ (1 : Int) = k := fun e => h e.symm
        simp [h, h']
/-- All Splits are so wide. -/
def SplitsW (wide : Int) (l : List Node) : Prop := ∀ n ∈ l, n.kind = 2 → n.wide = wide
/-- A desk at work, `i` commands behind. -/
structure DeskOK (l : LineS) (wide : Int) (i : Nat) (d : Desk) : Prop where
  len : d.nodes.length ≤ 5 + 7 * i
  cur : d.cur.length = 1 ∨ (d.cur.length : Int) = wide
  c1 : cnt 1 d.nodes = l.frm.length
  c5 : cnt 5 d.nodes = 0
  c3 : (cnt 3 d.nodes : Int) = wide * i
  c2 : wide = 1 → cnt 2 d.nodes = 0
  sp : SplitsW wide d.nodes
theorem desk_start {l : LineS} {wide : Int} (h : 1 ≤ l.frm.length ∧ l.frm.length ≤ 4) : DeskOK l wide 0 (srcs l.frm).behind := by
  obtain ⟨h1, h2, h3⟩ := srcs_len l.frm
  have hsp : SplitsW wide (srcs l.frm).nodes := by
    intro n hn hk
    have := h3 2
    simp at this
    unfold cnt at this
    rw [List.length_eq_zero_iff, List.filter_eq_nil_iff] at this
    exact absurd hk (by simpa using this n hn)
  unfold Desk.behind
  split
  · refine ⟨by simp; omega, .inl rfl, ?_, ?_, ?_, ?_, ?_⟩ <;> simp only [cnt_snoc, h3, joinN]
    · simp
    · simp
    · simp
    · simp
    · intro n hn hk
      rcases List.mem_append.1 hn with hn | hn
      · exact hsp n hn hk
      · simp at hn; subst hn; simp [joinN] at hk
  · refine ⟨by omega, .inl (by omega), ?_, ?_, ?_, ?_, hsp⟩ <;> simp only [h3]
    · simp
    · simp
    · simp
    · simp
theorem desk_wide {l : LineS} {wide : Int} {i : Nat} {d : Desk} (h : DeskOK l wide i d) (hw : 1 ≤ wide ∧ wide ≤ 5) : ((d.wide wide).cur.length : Int) = wide ∧ (d.wide wide).nodes.length ≤ 6 + 7 * i ∧ cnt 1 (d.wide wide).nodes = l.frm.length ∧ cnt 5 (d.wide wide).nodes = 0 ∧ (cnt 3 (d.wide wide).nodes : Int) = wide * i ∧ (wide = 1 → cnt 2 (d.wide wide).nodes = 0) ∧ SplitsW wide (d.wide wide).nodes := by
  have hl := h.len
  have hc := h.cur
  unfold Desk.wide
  split
  · refine ⟨by omega, by omega, h.c1, h.c5, h.c3, h.c2, h.sp⟩
  · refine ⟨by rw [ports_len]; omega, by simp; omega, ?_, ?_, ?_, ?_, ?_⟩
    · simp [cnt_snoc, splitN, h.c1]
    · simp [cnt_snoc, splitN, h.c5]
    · simp [cnt_snoc, splitN, h.c3]
    · intro h1; omega
    · intro n hn hk
      rcases List.mem_append.1 hn with hn | hn
      · exact h.sp n hn hk
      · simp at hn; subst hn; rfl
theorem desk_step {l : LineS} {wide : Int} {i : Nat} {d : Desk} (h : DeskOK l wide i d) (hw : 1 ≤ wide ∧ wide ≤ 5) (c : Cmd) : DeskOK l wide (i + 1) (d.step wide c) := by
  obtain ⟨h1, h2, h3, h4, h5, h6, h7⟩ := desk_wide h hw
  unfold Desk.step
  generalize d.wide wide = e at *
  have hw1 : ∀ k, cnt k (e.work c).nodes = cnt k e.nodes + if k = 3 then e.cur.length else 0 := fun k => by
    simp only [Desk.work, cnt_append, cnt_work]
  have hsp : SplitsW wide (e.work c).nodes := by
    intro n hn hk
    rcases List.mem_append.1 hn with hn | hn
    · exact h7 n hn hk
    · obtain ⟨p, _, rfl⟩ := List.mem_map.1 hn
      simp [workN] at hk
  have hlen : (e.work c).nodes.length = e.nodes.length + e.cur.length := by simp [Desk.work]
  have hcur : (e.work c).cur.length = e.cur.length := by simp [Desk.work, outs_len]
  have h3w : (cnt 3 (e.work c).nodes : Int) = wide * ((i + 1 : Nat) : Int) := by
    have := hw1 3
    simp only [if_true] at this
    rw [this, Int.natCast_add, h5, h1, Int.natCast_add, Int.mul_add]
    simp
  split
  · refine ⟨by omega, .inr (by omega), by simpa [h3] using hw1 1, by simpa [h4] using hw1 5, h3w, fun e1 => by simpa [h6 e1] using hw1 2, hsp⟩
  · refine ⟨by simp [Desk.fin]; omega, .inl rfl, ?_, ?_, ?_, ?_, ?_⟩
    · simp [Desk.fin, cnt_snoc, joinN, hw1, h3]
    · simp [Desk.fin, cnt_snoc, joinN, hw1, h4]
    · have : cnt 3 ((e.work c).fin c).nodes = cnt 3 (e.work c).nodes := by simp [Desk.fin, cnt_snoc, joinN]
      rw [this]; exact h3w
    · intro e1; simp [Desk.fin, cnt_snoc, joinN, hw1, h6 e1]
    · intro n hn hk
      rcases List.mem_append.1 hn with hn | hn
      · exact hsp n hn hk
      · simp at hn; subst hn; simp [joinN] at hk
theorem steps_ok {l : LineS} {wide : Int} (h : 1 ≤ l.frm.length ∧ l.frm.length ≤ 4) (hw : 1 ≤ wide ∧ wide ≤ 5) (i : Nat) (hi : i ≤ l.cmds.length) : DeskOK l wide i (steps wide (srcs l.frm).behind (l.cmds.take i)) := by
  induction i with
  | zero => simpa [steps] using desk_start h
  | succ i ih =>
    rw [steps_take (by omega)]
    exact desk_step (ih (by omega)) hw _
theorem plan_shape {l : LineS} {wide : Int} (h : 1 ≤ l.frm.length ∧ l.frm.length ≤ 4) (hw : 1 ≤ wide ∧ wide ≤ 5) : cnt 1 (planNodes l wide) = l.frm.length ∧ cnt 5 (planNodes l wide) = 1 ∧ (cnt 3 (planNodes l wide) : Int) = wide * l.cmds.length ∧ (wide = 1 → cnt 2 (planNodes l wide) = 0) ∧ SplitsW wide (planNodes l wide) := by
  have D := steps_ok h hw l.cmds.length (Nat.le_refl _)
  rw [List.take_length] at D
  unfold planNodes planDesk
  generalize steps wide (srcs l.frm).behind l.cmds = d at *
  have hb : ∀ k, k ≠ 4 → cnt k d.behind.nodes = cnt k d.nodes := fun k hk => by
    unfold Desk.behind
    split
    · have h' : ¬ (4 : Int) = k := fun e => hk e.symm
      simp [cnt_snoc, joinN, h']
    · rfl
  have hsp : SplitsW wide d.behind.nodes := by
    unfold Desk.behind
    split
    · intro n hn hk
      rcases List.mem_append.1 hn with hn | hn
      · exact D.sp n hn hk
      · simp at hn; subst hn; simp [joinN] at hk
    · exact D.sp
  refine ⟨?_, ?_, ?_, ?_, ?_⟩
  · simp [cnt_snoc, sinkN, hb, D.c1]
  · simp [cnt_snoc, sinkN, hb, D.c5]
  · simp [cnt_snoc, sinkN, hb, D.c3]
  · intro e; simp [cnt_snoc, sinkN, hb, D.c2 e]
  · intro n hn hk
    rcases List.mem_append.1 hn with hn | hn
    · exact hsp n hn hk
    · simp at hn; subst hn; simp [sinkN] at hk
end Gp
end PartP2
section PartEnc
/-! What the program's data read as. -/
namespace Gv
open Go Gp
def blV (l : List UInt8) : V := .sl byteV l
def idxB (l : List UInt8) (c : UInt8) : Int := Lib.indexByte l c
def intV (n : Int) : V := .int .i64 n
def cmdV (c : Cmd) : V := .agg [.int .i64 c.kind, .str c.word, .int .i64 c.n]
noncomputable def lineV (l : LineS) : V := .agg [.sl strV l.frm, .sl cmdV l.cmds, .str l.to]
def portV (p : Port) : V := .agg [.int .i64 p.node, .int .i64 p.out]
def nodeV (n : Gp.Node) : V := .agg [.int .i64 n.kind, .str n.file, .int .i64 n.c.kind, .str n.c.word, .int .i64 n.c.n, .int .i64 n.how, .int .i64 n.wide, .sl portV n.ins]
structure PipeS where
  b : List UInt8
  room : Int
  closed : Bool
  shut : Bool
def pipeV (p : PipeS) : V := .agg [.sl byteV p.b, .int .i64 p.room, .bool p.closed, .bool p.shut]
/-- A file with its bytes. -/
structure FileS where
  name : Bs
  b : Bs
  deriving DecidableEq
def fileV (f : FileS) : V := .agg [.str f.name, .sl byteV f.b]
end Gv
end PartEnc
section PartAd
/-! The library's words at strings as lists of bytes. -/
namespace Gv
open Go Go.RowKit Gw Gp
variable [Glob]
abbrev ba (s : Bs) : ByteArray := ⟨s.toArray⟩
theorem ba_data (s : Bs) : (ba s).data.toList = s := rfl
theorem ba_size (s : Bs) : (ba s).size = s.length := by simp [ba, ByteArray.size]
theorem str_ba (s : Bs) : Gw.str s = .string (ba s) := rfl
theorem vr_str {m : Mem} {q : Loc} {s : Bs} {u : Value} (h : VR m q (.str s) u) : u = Gw.str s ∧ s.length ≤ MAXL := by
  cases h with | str h => exact ⟨rfl, h⟩
theorem strs_open {w : World} {m : Mem} {q : Loc} {l : List Bs} {u : Value} (h : VR m q (.sl strV l) u) (hm : Sub m w) : ∃ p c, u = .slice p l.length c ∧ l.length ≤ c ∧ c ≤ MAXL ∧
    (l ≠ [] → ∃ b o, p = some ⟨b, o, none⟩ ∧ b < w.heap.size ∧ (∀ (j : Nat) x, l[j]? = some x → w.cell? ⟨b, o + j, none⟩ = some (Gw.str x)) ∧ ∀ x ∈ l, x.length ≤ MAXL) := by
  cases h with
  | @sl0 _ _ _ oa cap hc h0 => exact ⟨oa, cap, rfl, by simp, hc, fun h => absurd rfl h⟩
  | @sl _ _ _ _ b off arr T fz cap k us h1 h2 h3 h4 h5 h6 =>
    refine ⟨_, _, rfl, h1, h2, fun hne => ⟨b, off, rfl, hm.lt h3, fun j x hx => ?_, fun x hx => ?_⟩⟩
    · have hj : j < l.length := (List.getElem?_eq_some_iff.1 hx).1
      have hxe : l[j] = x := (List.getElem?_eq_some_iff.1 hx).2
      have hk : k = 1 := by rw [← h4 j hj]; rfl
      subst hk
      have e := h5 j hj 0 (strV l[j]) (by simp [strV, V.cells])
      have e2 := h6 j hj 0 (strV l[j]) (by simp [strV, V.cells])
      have e3 := (vr_str e2).1
      have hb := hm _ _ h3
      simp only [World.cell?, hb, Option.isSome_none, Bool.false_eq_true, if_false]
      rw [show off + j = off + j * 1 + 0 by omega, e.1, e3, hxe]
    · obtain ⟨j, hj, rfl⟩ := List.getElem_of_mem hx
      exact (vr_str (h6 j hj 0 (strV l[j]) (by simp [strV, V.cells]))).2
/-- A new row of strings. -/
theorem strs_new {w w' : World} {m : Mem} {l : List Bs} {T : TypeId} (hb : w'.heap[w.heap.size]? = some (.cells (l.map Gw.str).toArray T)) (hl : l.length ≤ MAXL) (hx : ∀ x ∈ l, x.length ≤ MAXL) :
    VR (grow m w w') noLoc (.sl strV l) (.slice (some ⟨w.heap.size, 0, none⟩) l.length l.length) := by
  have hc : ∀ j x, l[j]? = some x → ((l.map Gw.str).toArray)[0 + j * 1 + 0]? = some (Gw.str x) := fun j x hx => by
    rw [show 0 + j * 1 + 0 = j by omega, List.getElem?_toArray, List.getElem?_map, hx]; rfl
  refine .sl (k := 1) (off := 0) (fun i j => Gw.str (l.getD i [])) (Nat.le_refl _) hl (show grow m w w' _ = _ by unfold grow; rw [if_neg (by omega)]; exact hb) (fun i h => rfl) (fun i h j v e => ?_) (fun i h j v e => ?_)
  · have hj : j = 0 := by
      rcases Nat.eq_zero_or_pos j with h | h
      · exact h
      · rw [List.getElem?_eq_none (by simp [strV, V.cells]; omega)] at e; cases e
    subst hj
    refine ⟨?_, rfl⟩
    rw [hc i l[i] (List.getElem?_eq_getElem h)]
    simp [h]
  · have hj : j = 0 := by
      rcases Nat.eq_zero_or_pos j with h | h
      · exact h
      · rw [List.getElem?_eq_none (by simp [strV, V.cells]; omega)] at e; cases e
    subst hj
    obtain rfl : V.str l[i] = v := by simpa [strV, V.cells] using e
    have : l.getD i [] = l[i] := by simp [h]
    rw [this]
    exact .str (hx _ (List.getElem_mem h))
theorem splitK_le (sep : Bs) : ∀ (k : Nat) (s : Bs), ∀ x ∈ Lib.splitK sep 0 k s, x.length ≤ s.length
  | 0, s, x, hx => by simp [Lib.splitK] at hx; subst hx; exact Nat.le_refl _
  | k + 1, s, x, hx => by
    unfold Lib.splitK at hx
    split at hx
    · simp at hx; subst hx; exact Nat.le_refl _
    · rcases List.mem_cons.1 hx with rfl | hx
      · simp; omega
      · have := splitK_le sep k _ x hx
        simp at this; omega
theorem split_len (s sep : Bs) (h : 1 ≤ sep.length) : (Lib.split s sep).length = Lib.count s sep + 1 := by
  have h1 := Lib.splitB_all (ba sep) (by rw [ba_size]; exact h) 0 (Lib.count s sep) (ba s) rfl
  have e := congrArg List.length (Lib.splitB_data (ba sep) 0 (Lib.count s sep) (ba s))
  rw [List.length_map, h1] at e
  exact e.symm
theorem split_cells (s sep : Bs) : List.map Value.string (Lib.splitB (ba sep) 0 (Lib.countB (ba s) (ba sep)) (ba s)) = (Lib.split s sep).map Gw.str := by
  have e := Lib.splitB_data (ba sep) 0 (Lib.countB (ba s) (ba sep)) (ba s)
  have e2 : Lib.split s sep = (Lib.splitB (ba sep) 0 (Lib.countB (ba s) (ba sep)) (ba s)).map (·.data.toList) := e.symm
  rw [e2, List.map_map]
  refine List.map_congr_left fun x hx => ?_
  show Value.string x = Value.string ⟨x.data.toList.toArray⟩
  simp
end Gv
end PartAd
section PartAd2
/-! Rows of strings of one's own, sorted and made compact in their place. -/
namespace Gv
open Go Go.RowKit Gw Gp
variable [Glob]
section
variable {w0 : Start} {w w' : World} {m0 R m : Mem} {q : Loc}
theorem put_heap (w : World) {blk off : Nat} (d : Array Bs) {arr : Array Value} {T : TypeId} {fz : Nat × Nat} (h : w.heap[blk]? = some (.cells arr T fz)) (k : Nat) :
    (Go.Sort.putRow Go.Proofs.encStr w blk off d).heap[k]? = if k = blk then some (.cells (Go.Sort.putCells Go.Proofs.encStr off d arr) T fz) else w.heap[k]? := by
  simp only [Go.Sort.putRow, Go.Sort.mapBlock, Array.getElem?_modify]
  by_cases e : blk = k
  · subst e; simp [h, Go.Sort.onCells]
  · rw [if_neg e, if_neg (fun h => e h.symm)]
theorem sorted_world {w w' : World} {n blk : Nat} {d : Array Bs} {os : Array Obj} {arr : Array Value} {T : TypeId} {fz : Nat × Nat} (h : w.heap[blk]? = some (.cells arr T fz)) (hw : w' = Go.Sort.grow (Go.Sort.putRow Go.Proofs.encStr (Go.Sort.ahead w n) blk 0 d) os) :
    Bel [blk] w w' ∧ w'.heap[blk]? = some (.cells (Go.Sort.putCells Go.Proofs.encStr 0 d arr) T fz) := by
  have hp := put_heap (Go.Sort.ahead w n) (blk := blk) (off := 0) d (arr := arr) (T := T) (fz := fz) h
  have hs : (Go.Sort.putRow Go.Proofs.encStr (Go.Sort.ahead w n) blk 0 d).heap.size = w.heap.size := by rw [Go.Sort.size_putRow]; rfl
  have hb := lt_of_heap h
  have hg : ∀ k, k < w.heap.size → w'.heap[k]? = (Go.Sort.putRow Go.Proofs.encStr (Go.Sort.ahead w n) blk 0 d).heap[k]? := fun k hk => by
    rw [hw]
    exact Go.Sort.heap_grow_old _ _ (by rw [hs]; exact hk)
  refine ⟨⟨by rw [hw]; rfl, by rw [hw]; rfl, by rw [hw]; rfl, ?_, fun k hk hx => ?_⟩, ?_⟩
  · rw [hw, Go.Sort.size_grow, hs]; omega
  · rw [hg k hk, hp, if_neg (by simpa using hx)]
    rfl
  · rw [hg blk hb, hp, if_pos rfl]
theorem els_put {l l' : List Bs} {arr : Array Value} {cap : Nat} (ha : arr.size = cap * 1) (hl : l'.length ≤ cap) (hx : ∀ x ∈ l', x.length ≤ MAXL) : ElsR m 1 (l'.map strV) (Go.Sort.putCells Go.Proofs.encStr 0 l'.toArray arr) := fun i x hi => by
  rw [List.getElem?_map] at hi
  obtain ⟨c, hc, rfl⟩ := Option.map_eq_some_iff.1 hi
  have hlt := (List.getElem?_eq_some_iff.1 hc).1
  refine ⟨rfl, fun j v e => ?_⟩
  have hj : j = 0 := by
    rcases Nat.eq_zero_or_pos j with h | h
    · exact h
    · rw [List.getElem?_eq_none (by simp [strV, V.cells]; omega)] at e; cases e
  subst hj
  obtain rfl : V.str c = v := by simpa [strV, V.cells] using e
  refine ⟨Gw.str c, ?_, rfl, .str (hx c (List.mem_of_getElem? hc))⟩
  unfold Go.Sort.putCells
  have h1 : i < arr.size := by omega
  have h2 : i * 1 + 0 = i := by omega
  rw [h2, Array.getElem?_mapIdx, Array.getElem?_eq_getElem h1]
  simp only [Option.map_some]
  have h3 : 0 ≤ i ∧ i < 0 + l'.toArray.size := by simp; omega
  rw [if_pos h3]
  have h4 : l'.toArray[i - 0]! = c := by
    rw [Nat.sub_zero, getElem!_pos _ _ (by simpa using hlt)]
    simpa using (List.getElem?_eq_some_iff.1 hc).2
  rw [h4]
  rfl
theorem putCells_size {d : Array Bs} {arr : Array Value} : (Go.Sort.putCells Go.Proofs.encStr 0 d arr).size = arr.size := by simp [Go.Sort.putCells]
/-- A row of strings of one's own. -/
theorem own_strs {l : List Bs} {u : Value} (C : Cf w0 m0 [.row 1 (l.map strV)] R m q w) (hv : VR m q (.own 0) u) : (u = .slice none 0 0 ∧ l = []) ∨
    ∃ b cap arr T fz, u = .slice (some ⟨b, 0, none⟩) l.length cap ∧ l.length ≤ cap ∧ cap ≤ MAXL ∧ q 0 = some (some b, l.length, cap, 1) ∧ R b = some (.cells arr T fz) ∧ arr.size = cap * 1 ∧ noFz arr.size fz ∧ Go.Sort.Holds Go.Proofs.encStr w b 0 l.toArray ∧ (∀ x ∈ l, x.length ≤ MAXL) := by
  obtain ⟨ob, cap, h1, h2, h3, h4, h5⟩ := C.rok.row 0 _ rfl
  simp only [List.length_map] at h1 h2
  cases hv with
  | own hq =>
    rw [h1] at hq; cases hq
    cases ob with
    | none =>
      left
      have := h4 rfl
      subst this
      obtain rfl : l = [] := List.length_eq_zero_iff.1 (by omega)
      exact ⟨rfl, rfl⟩
    | some b =>
      right
      obtain ⟨arr, T, fz, g1, g2, g3, g4⟩ := h5 b rfl
      have hx : ∀ (i : Nat) (hi : i < l.length), arr[i]? = some (Gw.str l[i]) ∧ l[i].length ≤ MAXL := fun i hi => by
        obtain ⟨u, e1, -, e3⟩ := (g3 i (strV l[i]) (by simp [hi])).2 0 (strV l[i]) (by simp [strV, V.cells])
        have := vr_str e3
        rw [show i * 1 + 0 = i by omega] at e1
        rw [e1, this.1]
        exact ⟨rfl, this.2⟩
      refine ⟨b, cap, arr, T, fz, rfl, h2, h3, h1, g1, g2, g4, fun j hj => ?_, fun x hx' => ?_⟩
      · have hj' : j < l.length := by simpa using hj
        have hb := (C.sit.own _ _ g1).2.1
        have e := (hx j hj').1
        have hlt := (Array.getElem?_eq_some_iff.1 e).1
        refine ⟨?_, ?_⟩
        · simp only [World.cell?, hb, Option.isSome_none, Bool.false_eq_true, if_false, Nat.zero_add]
          rw [e]
          congr 1
          rw [getElem!_pos _ _ (by simpa using hj')]
          simp
          rfl
        · simp only [World.frozen?, hb, Nat.zero_add]
          have := g4 j hlt
          simpa using this
      · obtain ⟨i, hi, rfl⟩ := List.getElem_of_mem hx'
        exact (hx i hi).2
theorem Cf.strs_put {l l' : List Bs} {b cap : Nat} {arr : Array Value} {T : TypeId} {fz : Nat × Nat} (C : Cf w0 m0 [.row 1 (l.map strV)] R m q w) (hq : q 0 = some (some b, l.length, cap, 1)) (hR : R b = some (.cells arr T fz)) (ha : arr.size = cap * 1) (hz : noFz arr.size fz) (hcap : cap ≤ MAXL)
    (hlc : l.length ≤ cap) (hl : l'.length = l.length) (hx : ∀ x ∈ l', x.length ≤ MAXL) (hb : Bel [b] w w') (hh : w'.heap[b]? = some (.cells (Go.Sort.putCells Go.Proofs.encStr 0 l'.toArray arr) T fz)) :
    Cf w0 m0 [.row 1 (l'.map strV)] (R.put b (.cells (Go.Sort.putCells Go.Proofs.encStr 0 l'.toArray arr) T fz)) m q w' := by
  have := C.store (r := 0) (x := .row 1 (l.map strV)) (y := .row 1 (l'.map strV)) rfl rfl hq hR hb hh ?_
  · exact this
  refine ⟨some b, cap, by simpa [hl] using hq, by simpa [hl] using hlc, hcap, (fun h => by cases h), fun b' e => ?_⟩
  cases e
  exact ⟨_, T, fz, by simp [Mem.put], by rw [putCells_size]; exact ha, els_put (l := l) ha (by omega) hx, by rw [putCells_size]; exact hz⟩
end
/-- Sorted. -/
def sortB (l : List Bs) : List Bs := l.mergeSort fun x y => decide (x ≤ y)
omit [Glob] in
theorem sortB_perm (l : List Bs) : (sortB l).Perm l := List.mergeSort_perm l _
omit [Glob] in
theorem sortB_len (l : List Bs) : (sortB l).length = l.length := List.length_mergeSort l
def onceB (l : List Bs) : List Bs := Lib.compact l
omit [Glob] in
theorem onceB_sub (l : List Bs) : ∀ x ∈ onceB l, x ∈ l := fun x hx => by
  unfold onceB Lib.compact Lib.compactUpTo at hx
  obtain ⟨i, hi, rfl⟩ := List.mem_map.1 hx
  have hi2 := (List.mem_filter.1 hi).1
  have hlt : i < l.length := by simpa using hi2
  rw [getElem!_pos _ _ (by simpa using hlt)]
  simp
omit [Glob] in
theorem onceB_len (l : List Bs) : (onceB l).length ≤ l.length := by
  unfold onceB Lib.compact Lib.compactUpTo
  rw [List.length_map]
  refine Nat.le_trans (List.length_filter_le _ _) ?_
  simp
theorem vrl_one {m : Mem} {q : Loc} {v : V} {us : List Value} (h : VRL m q [v] us) : ∃ u, us = [u] ∧ VR m q v u := by
  have hl := h.len
  match us, hl with
  | [u], _ => exact ⟨u, rfl, h.el 0 v u rfl rfl⟩
end Gv
end PartAd2
section PartP3
/-! Commands over lines, in plain words. -/
namespace Gv
open Go Gp
theorem idx_one (a : UInt8) : ∀ s : Bs, (Lib.index s [a] = -1 ∧ a ∉ s) ∨ ∃ p r, s = p ++ a :: r ∧ a ∉ p ∧ Lib.index s [a] = (p.length : Int)
  | [] => .inl ⟨rfl, by simp⟩
  | b :: l => by
    unfold Lib.index
    have e : [a].isPrefixOf (b :: l) = (a == b) := by simp [List.isPrefixOf]
    rw [e]
    by_cases h : a = b
    · subst h
      right
      exact ⟨[], l, rfl, by simp, by simp⟩
    · have hb : (a == b) = false := by simpa using h
      rw [hb]
      rcases idx_one a l with ⟨h1, h2⟩ | ⟨p, r, rfl, h2, h3⟩
      · left
        refine ⟨?_, by simp [h, h2]⟩
        rw [h1]; rfl
      · right
        refine ⟨b :: p, r, rfl, by simp [h, h2], ?_⟩
        rw [h3]
        have : ((p.length : Int) == -1) = false := by simp
        simp only [this, Bool.false_eq_true, if_false, List.length_cons]
        omega
theorem split_no {a : UInt8} {s : Bs} (h : a ∉ s) : Lib.split s [a] = [s] := by
  unfold Lib.split
  rw [Lib.count_one, List.count_eq_zero.2 h]
  rfl
theorem idx_at {a : UInt8} {p : Bs} (h : a ∉ p) (r : Bs) : Lib.index (p ++ a :: r) [a] = (p.length : Int) := by
  rcases idx_one a (p ++ a :: r) with ⟨-, h2⟩ | ⟨p', r', e, h2, h3⟩
  · simp at h2
  · have : p = p' := by
      rcases List.append_eq_append_iff.1 e with ⟨x, hx, hy⟩ | ⟨x, hx, hy⟩
      · cases x with
        | nil => simpa using hx.symm
        | cons c x =>
          simp only [List.cons_append, List.cons.injEq] at hy
          rw [hx, ← hy.1] at h2
          simp at h2
      · cases x with
        | nil => simpa using hx
        | cons c x =>
          simp only [List.cons_append, List.cons.injEq] at hy
          rw [hx, ← hy.1] at h
          simp at h
    rw [h3, this]
theorem split_at {a : UInt8} {p : Bs} (h : a ∉ p) (r : Bs) : Lib.split (p ++ a :: r) [a] = p :: Lib.split r [a] := by
  have hi := idx_at h r
  unfold Lib.split
  have hc : Lib.count (p ++ a :: r) [a] = Lib.count r [a] + 1 := by
    rw [Lib.count_one, Lib.count_one, List.count_append, List.count_eq_zero.2 h]
    simp
  rw [hc, Lib.splitK, hi]
  have : ((p.length : Int) == -1) = false := by simp
  simp only [this, Bool.false_eq_true, if_false, Int.toNat_natCast, Nat.add_zero, List.take_left, List.length_singleton, List.cons.injEq, true_and]
  have e : (p ++ a :: r).drop (p.length + 1) = r := by
    rw [← List.drop_drop]
    simp
  rw [e]
theorem splitK_sz (sep : Bs) : ∀ (k : Nat) (s : Bs), ∀ x ∈ Lib.splitK sep 0 k s, x.length ≤ s.length
  | 0, s, x, hx => by simp [Lib.splitK] at hx; subst hx; exact Nat.le_refl _
  | k + 1, s, x, hx => by
    unfold Lib.splitK at hx
    split at hx
    · simp at hx; subst hx; exact Nat.le_refl _
    · rcases List.mem_cons.1 hx with rfl | hx
      · simp; omega
      · have := splitK_sz sep k _ x hx
        simp at this; omega
theorem split_ne (s sep : Bs) : Lib.split s sep ≠ [] := by
  unfold Lib.split
  generalize Lib.count s sep = k
  cases k with
  | zero => simp [Lib.splitK]
  | succ k => unfold Lib.splitK; split <;> simp
/-- A byte for another. -/
theorem replace_one (a b : UInt8) : ∀ s : Bs, Lib.replaceAll s [a] [b] = s.map fun c => if c = a then b else c := by
  have key : ∀ (k : Nat) (s : Bs), s.count a = k → Lib.replaceK [a] [b] k s = s.map fun c => if c = a then b else c := by
    intro k
    induction k with
    | zero =>
      intro s h
      have hn : a ∉ s := List.count_eq_zero.1 h
      unfold Lib.replaceK
      have : s.map (fun c => if c = a then b else c) = s.map id := List.map_congr_left fun c hc => by
        rw [if_neg (fun e => hn (by rw [← e]; exact hc))]; rfl
      rw [this, List.map_id]
    | succ k ih =>
      intro s h
      rcases idx_one a s with ⟨-, h2⟩ | ⟨p, r, rfl, h2, h3⟩
      · rw [List.count_eq_zero.2 h2] at h; cases h
      · have hr : r.count a = k := by
          rw [List.count_append, List.count_eq_zero.2 h2] at h
          simp at h
          exact h
        rw [Lib.replaceK_hit _ _ _ _ _ h3, List.take_left, List.length_singleton, ← List.drop_drop, List.drop_left]
        simp only [List.drop_succ_cons, List.drop_zero, List.map_append, List.map_cons, if_true]
        rw [ih r hr]
        have : p.map (fun c => if c = a then b else c) = p.map id := List.map_congr_left fun c hc => by
          rw [if_neg (fun e => h2 (by rw [← e]; exact hc))]; rfl
        rw [this, List.map_id]
        simp
  intro s
  unfold Lib.replaceAll Lib.replace
  by_cases h : a = b
  · subst h
    have : s.map (fun c => if c = a then a else c) = s.map id := List.map_congr_left fun c hc => by
      by_cases e : c = a
      · rw [if_pos e, e]; rfl
      · rw [if_neg e]; rfl
    rw [this, List.map_id]
    simp
  · have h1 : (([a] : Bs) == [b]) = false := by simpa using h
    rw [h1]
    simp only [Bool.false_eq_true, if_false]
    have h2 : Lib.replaceNum s [a] (-1) = s.count a := by
      unfold Lib.replaceNum
      rw [if_pos (by omega), Lib.count_one]
    rw [h2]
    exact key _ s rfl
/-! Lines as the document has them. -/
def dropE (l : List Bs) : List Bs := if l.getLast? = some [] then l.dropLast else l
theorem split_lines (b : Bs) : dropE (Lib.split b [10]) = linesOf b := by
  induction b using line_ind with
  | h0 => rfl
  | h1 a h h0 =>
    rw [split_no h, linesOf_no h h0]
    unfold dropE
    rw [if_neg (by simpa using h0)]
  | h2 a r h ih =>
    rw [split_at h, linesOf_nl h, ← ih]
    have hne := split_ne r [10]
    unfold dropE
    rw [List.getLast?_cons_of_ne_nil hne, List.dropLast_cons_of_ne_nil hne]
    split <;> rfl
theorem join_put : ∀ l : List Bs, (if 0 < l.length then Lib.join l [10] ++ [10] else Lib.join l [10]) = put l
  | [] => rfl
  | [s] => by simp [Lib.join, put, List.intercalate]
  | s :: t :: r => by
    have ih := join_put (t :: r)
    simp only [List.length_cons, Nat.zero_lt_succ, if_true] at ih ⊢
    unfold put
    rw [← ih]
    simp [Lib.join, List.intercalate, List.intersperse]
/-! ### What a command does -/
def oneC (c : Cmd) (s : Bs) : Bs × Bool :=
  if c.kind = 1 then (s, Lib.contains s c.word) else if c.kind = 2 then (s, !Lib.contains s c.word)
  else if c.kind = 3 then (Lib.replaceAll s (c.word.take 1) (c.word.drop 1), true)
  else if c.kind = 4 then (if ((Lib.split s [32]).length : Int) < c.n then [] else (Lib.split s [32]).getD (c.n - 1).toNat [], true)
  else (s.reverse, true)
def outC (c : Cmd) (s : Bs) : Option Bs := match oneC c s with | (t, true) => some t | (_, false) => none
def linesC (c : Cmd) (l : List Bs) : List Bs :=
  if c.kind = 6 then sortB l else if c.kind = 7 then onceB l else if c.kind = 8 then [Lib.itoa l.length]
  else if c.kind = 9 then l.take c.n.toNat else if c.kind = 10 then l.drop (l.length - c.n.toNat) else l.filterMap (outC c)
def doC (c : Cmd) (b : Bs) : Bs × Int := if checkCmd c ≠ 0 then ([], checkCmd c) else if 4000 < b.length then ([], 2) else (put (linesC c (linesOf b)), 0)
theorem word2 {c : Cmd} (h : checkCmd c = 0) (h3 : c.kind = 3) : ∃ a b, c.word = [a, b] := by
  have : c.word.length = 2 := by
    unfold checkCmd at h
    repeat' split at h
    all_goals first | (cases h; done) | grind
  match hw : c.word, this with
  | [a, b], _ => exact ⟨a, b, rfl⟩
theorem one_len {c : Cmd} (h : checkCmd c = 0) (s : Bs) : (oneC c s).1.length ≤ s.length := by
  unfold oneC
  split
  · exact Nat.le_refl _
  split
  · exact Nat.le_refl _
  split
  · rename_i h3
    obtain ⟨a, b, e⟩ := word2 h h3
    rw [e]
    show (Lib.replaceAll s [a] [b]).length ≤ _
    rw [replace_one]
    simp
  split
  · dsimp only
    split
    · simp
    · rename_i h4 h5
      by_cases hi : (c.n - 1).toNat < (Lib.split s [32]).length
      · have e : (Lib.split s [32]).getD (c.n - 1).toNat [] = (Lib.split s [32])[(c.n - 1).toNat] := by rw [List.getD_eq_getElem?_getD, List.getElem?_eq_getElem hi]; rfl
        rw [e]
        exact splitK_sz [32] _ s _ (List.getElem_mem hi)
      · have e : (Lib.split s [32]).getD (c.n - 1).toNat [] = [] := by rw [List.getD_eq_getElem?_getD, List.getElem?_eq_none (by omega)]; rfl
        rw [e]
        simp
  · simp
theorem put_sum : ∀ l : List Bs, (put l).length = (l.map fun s => s.length + 1).sum
  | [] => rfl
  | s :: r => by
    unfold put
    simp [put_sum r]
    omega
theorem put_perm {l l' : List Bs} (h : l.Perm l') : (put l).length = (put l').length := by
  rw [put_sum, put_sum]
  exact (h.map _).sum_nat
theorem put_sub {l l' : List Bs} (h : l.Sublist l') : (put l).length ≤ (put l').length := by
  induction h with
  | slnil => exact Nat.le_refl _
  | cons a h ih => simp only [put, List.length_append, List.length_cons]; omega
  | cons_cons a h ih => simp only [put, List.length_append, List.length_cons]; omega
theorem out_len {c : Cmd} (h : checkCmd c = 0) {s t : Bs} (ht : outC c s = some t) : t.length ≤ s.length := by
  have h1 := one_len h s
  unfold outC at ht
  split at ht
  · rename_i u hu
    rw [hu] at h1
    cases ht
    exact h1
  · cases ht
theorem put_filterMap {c : Cmd} (h : checkCmd c = 0) : ∀ l : List Bs, (put (l.filterMap (outC c))).length ≤ (put l).length
  | [] => Nat.le_refl _
  | s :: r => by
    have ih := put_filterMap h r
    rw [List.filterMap_cons]
    split
    · simp only [put, List.length_append, List.length_cons]
      omega
    · rename_i t ht
      have := out_len h ht
      simp only [put, List.length_append, List.length_cons]
      omega
theorem itoa_len (n : Int) (h : -9223372036854775808 ≤ n ∧ n ≤ 9223372036854775807) : (Lib.itoa n).length ≤ 24 := by
  unfold Lib.itoa
  split
  · have := Lib.nDigits_le20 n.natAbs (by omega)
    simp only [List.length_cons, Lib.decDigits_length]
    omega
  · have := Lib.nDigits_le20 n.toNat (by omega)
    rw [Lib.decDigits_length]
    omega
theorem onceB_sublist (l : List Bs) : (onceB l).Sublist l := by
  unfold onceB Lib.compact Lib.compactUpTo
  have e : l = (List.range l.length).map fun i => l.toArray[i]! := by
    refine List.ext_getElem (by simp) fun i h1 h2 => ?_
    simp [h1]
  refine (List.filter_sublist.map _).trans ?_
  rw [← e]
  exact List.Sublist.refl _
theorem linesC_put {c : Cmd} (h : checkCmd c = 0) (l : List Bs) (hl : l.length ≤ 100000) : (put (linesC c l)).length ≤ (put l).length + 30 := by
  unfold linesC
  split
  · rw [put_perm (sortB_perm l)]; omega
  split
  · have := put_sub (onceB_sublist l); omega
  split
  · have := itoa_len l.length ⟨by omega, by omega⟩
    simp only [put, List.length_append, List.length_cons, List.length_nil]
    omega
  split
  · have := put_sub (List.take_sublist c.n.toNat l); omega
  split
  · have := put_sub (List.drop_sublist (l.length - c.n.toNat) l); omega
  · have := put_filterMap h l; omega
theorem sortB_of {l l' : List Bs} (hp : l.Perm l') (hs : l'.Pairwise (· ≤ ·)) : sortB l = l' := by
  have tr : ∀ a b c : Bs, decide (a ≤ b) = true → decide (b ≤ c) = true → decide (a ≤ c) = true := fun a b c h1 h2 => by
    simp only [decide_eq_true_eq] at *
    exact List.le_trans h1 h2
  have tot : ∀ a b : Bs, (decide (a ≤ b) || decide (b ≤ a)) = true := fun a b => by
    simp only [Bool.or_eq_true, decide_eq_true_eq]
    exact List.le_total a b
  have h1 := List.pairwise_mergeSort tr tot l
  refine List.Perm.eq_of_pairwise (le := fun a b : Bs => a ≤ b) ?_ (h1.imp fun h => by simpa using h) hs ((sortB_perm l).trans hp)
  intro a b _ _ h1 h2
  exact List.le_antisymm h1 h2
end Gv
end PartP3
section PartP4
/-! What parts of a command's work come to, in plain words. -/
namespace Gv
open Go Gp
def lsV (l : List Bs) : V := .sl strV l
theorem less_eq (a b : Bs) : Op.bytesLess a b = decide (a < b) := Go.Proofs.bytesLess_eq a b
def keepC (w : Bs) : Cmd := ⟨1, w, 0⟩
def dropC (w : Bs) : Cmd := ⟨2, w, 0⟩
theorem keep_filter (w : Bs) (l : List Bs) : linesC ⟨1, w, 0⟩ l = l.filter fun s => Lib.contains s w := by
  unfold linesC
  simp only [show ¬ (1 : Int) = 6 by decide, show ¬ (1 : Int) = 7 by decide, show ¬ (1 : Int) = 8 by decide, show ¬ (1 : Int) = 9 by decide, show ¬ (1 : Int) = 10 by decide, if_false]
  rw [← List.filterMap_eq_filter]
  congr 1
  funext s
  show (match (s, Lib.contains s w) with | (t, true) => some t | (_, false) => none) = _
  cases h : Lib.contains s w <;> simp [h, Option.guard]
theorem drop_filter (w : Bs) (l : List Bs) : linesC ⟨2, w, 0⟩ l = l.filter fun s => !Lib.contains s w := by
  unfold linesC
  simp only [show ¬ (2 : Int) = 6 by decide, show ¬ (2 : Int) = 7 by decide, show ¬ (2 : Int) = 8 by decide, show ¬ (2 : Int) = 9 by decide, show ¬ (2 : Int) = 10 by decide, if_false]
  rw [← List.filterMap_eq_filter]
  congr 1
  funext s
  show (match (s, !Lib.contains s w) with | (t, true) => some t | (_, false) => none) = _
  cases h : Lib.contains s w <;> simp [h, Option.guard]
theorem keep_drop (w : Bs) (l : List Bs) : (linesC ⟨1, w, 0⟩ l ++ linesC ⟨2, w, 0⟩ l).Perm l := by
  rw [keep_filter, drop_filter]
  exact List.filter_append_perm _ l
theorem sortB_pairwise (l : List Bs) : (sortB l).Pairwise (· ≤ ·) := by
  have tr : ∀ a b c : Bs, decide (a ≤ b) = true → decide (b ≤ c) = true → decide (a ≤ c) = true := fun a b c h1 h2 => by
    simp only [decide_eq_true_eq] at *
    exact List.le_trans h1 h2
  have tot : ∀ a b : Bs, (decide (a ≤ b) || decide (b ≤ a)) = true := fun a b => by
    simp only [Bool.or_eq_true, decide_eq_true_eq]
    exact List.le_total a b
  exact (List.pairwise_mergeSort tr tot l).imp fun h => by simpa using h
theorem sortB_congr {l l' : List Bs} (h : l.Perm l') : sortB l = sortB l' := sortB_of (h.trans (sortB_perm l').symm) (sortB_pairwise l')
theorem noNl_perm {l l' : List Bs} (h : l.Perm l') (hn : NoNl l') : NoNl l := fun s hs => hn s (h.mem_iff.1 hs)
theorem noNl_sub {l l' : List Bs} (h : l.Sublist l') (hn : NoNl l') : NoNl l := fun s hs => hn s (h.subset hs)
theorem put_lines (b : Bs) : (put (linesOf b)).length ≤ b.length + 1 := whole_len b
/-- An index, from any integer. -/
theorem at_eq (k n : Int) (h : 1 ≤ n) : (if k.tmod n < 0 then k.tmod n + n else k.tmod n) = k % n := by
  have h1 := Int.tmod_lt_of_pos k (show 0 < n by omega)
  have e := Int.tmod_add_mul_tdiv k n
  have e2 : k % n = k.tmod n % n := by
    conv => lhs; rw [← e]
    rw [Int.add_mul_emod_self_left]
  have h2 : -n < k.tmod n := Int.lt_tmod_of_pos k (show 0 < n by omega)
  rw [e2]
  split
  · have e3 : (k.tmod n + n) % n = k.tmod n % n := Int.add_emod_right _ _
    rw [← e3, Int.emod_eq_of_lt (by omega) (by omega)]
  · rw [Int.emod_eq_of_lt (by omega) h1]
theorem doC_ok {c : Cmd} {b x : Bs} (h : doC c b = (x, 0)) : checkCmd c = 0 ∧ b.length ≤ 4000 ∧ x = put (linesC c (linesOf b)) := by
  unfold doC at h
  split at h
  · rename_i h1
    exact absurd (Prod.mk.inj h).2 h1
  rename_i h1
  split at h
  · exact absurd (Prod.mk.inj h).2 (by decide)
  · rename_i h2
    exact ⟨by simpa using h1, by omega, (Prod.mk.inj h).1.symm⟩
theorem doC_at {c : Cmd} {b : Bs} (h : checkCmd c = 0) (hb : b.length ≤ 4000) : doC c b = (put (linesC c (linesOf b)), 0) := by
  unfold doC
  rw [if_neg (by rw [h]; simp), if_neg (by omega)]
end Gv
end PartP4
section PartP5
/-! What is done twice, in plain words. -/
namespace Gv
open Go Gp
/-- Each differs from the one ahead of it. -/
def Apart (l : List Bs) : Prop := ∀ i (h : i + 1 < l.length), l[i + 1] ≠ l[i]
theorem apart_snoc {l : List Bs} {x : Bs} (h : Apart l) (hx : ∀ y, l.getLast? = some y → x ≠ y) : Apart (l ++ [x]) := by
  intro i hi
  rw [List.length_append] at hi
  simp only [List.length_cons, List.length_nil] at hi
  by_cases h1 : i + 1 < l.length
  · rw [List.getElem_append_left h1, List.getElem_append_left (by omega)]
    exact h i h1
  · have e : i + 1 = l.length := by omega
    rw [List.getElem_append_left (show i < l.length by omega), List.getElem_append_right (by omega)]
    have : [x][i + 1 - l.length]'(by simp; omega) = x := by
      simp [e]
    rw [this]
    refine hx _ ?_
    rw [List.getLast?_eq_getElem?, show l.length - 1 = i by omega, List.getElem?_eq_getElem]
theorem upto_apart (l : List Bs) : ∀ m, m ≤ l.length → Apart (Lib.compactUpTo l.toArray m) ∧ (0 < m → (Lib.compactUpTo l.toArray m).getLast? = some (l.toArray[m - 1]!))
  | 0, _ => ⟨fun i h => by simp [Lib.compactUpTo] at h, fun h => by omega⟩
  | m + 1, hm => by
    obtain ⟨h1, h2⟩ := upto_apart l m (by omega)
    rw [Lib.compactUpTo_succ]
    cases hk : Lib.keeps l.toArray m with
    | true =>
      simp only [if_true]
      refine ⟨apart_snoc h1 fun y hy => ?_, fun _ => by simp⟩
      rcases Nat.eq_zero_or_pos m with h0 | h0
      · subst h0
        simp [Lib.compactUpTo] at hy
      · rw [h2 h0] at hy
        cases hy
        have := of_decide_eq_true hk
        rcases this with h | h
        · omega
        · exact h
    | false =>
      simp only [Bool.false_eq_true, if_false, List.append_nil]
      refine ⟨h1, fun _ => ?_⟩
      have h0 : 0 < m := by
        rcases Nat.eq_zero_or_pos m with h0 | h0
        · subst h0
          rw [Lib.keeps_lt_one _ 0 (by omega)] at hk
          cases hk
        · exact h0
      have hd := of_decide_eq_false hk
      have he : l.toArray[m]! = l.toArray[m - 1]! := by
        by_cases h : l.toArray[m]! = l.toArray[m - 1]!
        · exact h
        · exact absurd (.inr h) hd
      rw [h2 h0]
      simp only [Nat.add_sub_cancel]
      rw [he]
theorem onceB_apart (l : List Bs) : Apart (onceB l) := (upto_apart l l.length (Nat.le_refl _)).1
theorem compact_idem (l : List Bs) : onceB (onceB l) = onceB l := by
  have ha := onceB_apart l
  generalize onceB l = e at ha
  refine Lib.compact_all e fun j hj => ?_
  rcases Nat.eq_zero_or_pos j with h0 | h0
  · subst h0
    exact Lib.keeps_lt_one _ 0 (by omega)
  · refine Lib.keeps_pos ?_
    have := ha (j - 1) (by omega)
    rw [getElem!_pos _ _ (by simpa using hj), getElem!_pos _ _ (by simp; omega)]
    simp only [List.getElem_toArray]
    have e2 : j - 1 + 1 = j := by omega
    simp only [e2] at this
    exact this
theorem take_take_self (n : Nat) (l : List Bs) : (l.take n).take n = l.take n := by rw [List.take_take, Nat.min_self]
theorem drop_drop_self (n : Nat) (l : List Bs) : (l.drop (l.length - n)).drop ((l.drop (l.length - n)).length - n) = l.drop (l.length - n) := by
  rw [List.length_drop]
  have : l.length - (l.length - n) - n = 0 := by omega
  rw [this, List.drop_zero]
/-- What is done again is done. -/
theorem linesC_again {c : Cmd} (h : c.kind = 6 ∨ c.kind = 7 ∨ c.kind = 1 ∨ c.kind = 2 ∨ c.kind = 9 ∨ c.kind = 10) (l : List Bs) : linesC c (linesC c l) = linesC c l := by
  have filt : ∀ (p : Bs → Bool) (l : List Bs), (l.filter p).filter p = l.filter p := fun p l => by rw [List.filter_filter]; congr 1; funext x; simp
  have f1 : c.kind = 1 → ∀ l : List Bs, linesC c l = l.filter fun s => Lib.contains s c.word := fun h1 l => by
    unfold linesC
    simp only [h1, show ¬ (1 : Int) = 6 by decide, show ¬ (1 : Int) = 7 by decide, show ¬ (1 : Int) = 8 by decide, show ¬ (1 : Int) = 9 by decide, show ¬ (1 : Int) = 10 by decide, if_false]
    rw [← List.filterMap_eq_filter]
    congr 1
    funext s
    unfold outC oneC
    rw [if_pos h1]
    cases hc : Lib.contains s c.word <;> simp [hc, Option.guard]
  have f2 : c.kind = 2 → ∀ l : List Bs, linesC c l = l.filter fun s => !Lib.contains s c.word := fun h1 l => by
    unfold linesC
    simp only [h1, show ¬ (2 : Int) = 6 by decide, show ¬ (2 : Int) = 7 by decide, show ¬ (2 : Int) = 8 by decide, show ¬ (2 : Int) = 9 by decide, show ¬ (2 : Int) = 10 by decide, if_false]
    rw [← List.filterMap_eq_filter]
    congr 1
    funext s
    unfold outC oneC
    rw [if_neg (by omega), if_pos h1]
    cases hc : Lib.contains s c.word <;> simp [hc, Option.guard]
  rcases h with h | h | h | h | h | h
  · unfold linesC
    rw [if_pos h, if_pos h]
    exact sortB_congr (sortB_perm l)
  · unfold linesC
    rw [if_neg (by omega), if_pos h, if_neg (by omega), if_pos h]
    exact compact_idem l
  · rw [f1 h, f1 h, filt]
  · rw [f2 h, f2 h, filt]
  · unfold linesC
    rw [if_neg (by omega), if_neg (by omega), if_neg (by omega), if_pos h, if_neg (by omega), if_neg (by omega), if_neg (by omega), if_pos h]
    exact take_take_self _ l
  · unfold linesC
    rw [if_neg (by omega), if_neg (by omega), if_neg (by omega), if_neg (by omega), if_pos h, if_neg (by omega), if_neg (by omega), if_neg (by omega), if_neg (by omega), if_pos h]
    exact drop_drop_self _ l
theorem linesC_turn {c : Cmd} (h : c.kind = 5) (l : List Bs) : linesC c l = l.map List.reverse := by
  unfold linesC
  rw [if_neg (by omega), if_neg (by omega), if_neg (by omega), if_neg (by omega), if_neg (by omega)]
  have : outC c = fun s => some s.reverse := by
    funext s
    unfold outC oneC
    rw [if_neg (by omega), if_neg (by omega), if_neg (by omega), if_neg (by omega)]
  rw [this]
  induction l with
  | nil => rfl
  | cons a r ih => rw [List.filterMap_cons]; simp [ih]
theorem linesC_swap {c : Cmd} (h : c.kind = 3) {x y : UInt8} (hw : c.word = [x, y]) (l : List Bs) : linesC c l = l.map fun s => s.map fun z => if z = x then y else z := by
  unfold linesC
  rw [if_neg (by omega), if_neg (by omega), if_neg (by omega), if_neg (by omega), if_neg (by omega)]
  have : outC c = fun s => some (s.map fun z => if z = x then y else z) := by
    funext s
    unfold outC oneC
    rw [if_neg (by omega), if_neg (by omega), if_pos h, hw]
    show some (Lib.replaceAll s [x] [y]) = _
    rw [replace_one]
  rw [this]
  induction l with
  | nil => rfl
  | cons a r ih => rw [List.filterMap_cons]; simp [ih]
theorem word_no10 {c : Cmd} (h : checkCmd c = 0) (hu : useWord c = true) : ∀ z ∈ c.word, z ≠ 10 := by
  have hw : isWord c.word = true := by
    unfold checkCmd at h
    grind
  intro z hz e
  unfold isWord at hw
  simp only [Bool.and_eq_true, List.all_eq_true] at hw
  have := hw.2 z hz
  subst e
  revert this
  decide
/-- No line that a command makes has an end of its own. -/
theorem split_mem (sep : Bs) : ∀ (k : Nat) (s : Bs), ∀ x ∈ Lib.splitK sep 0 k s, ∀ z ∈ x, z ∈ s
  | 0, s, x, hx, z, hz => by simp [Lib.splitK] at hx; subst hx; exact hz
  | k + 1, s, x, hx, z, hz => by
    unfold Lib.splitK at hx
    split at hx
    · simp at hx; subst hx; exact hz
    · rcases List.mem_cons.1 hx with rfl | hx
      · exact List.mem_of_mem_take hz
      · exact List.mem_of_mem_drop (split_mem sep k _ x hx z hz)
theorem outC_no10 {c : Cmd} (h : checkCmd c = 0) {s t : Bs} (ht : outC c s = some t) (hs : (10 : UInt8) ∉ s) : (10 : UInt8) ∉ t := by
  have e : t = (oneC c s).1 := by
    unfold outC at ht
    split at ht
    · rename_i u hu
      rw [hu]
      exact (Option.some.inj ht).symm
    · cases ht
  subst e
  unfold oneC
  split
  · exact hs
  split
  · exact hs
  split
  · rename_i h3
    obtain ⟨a, b, hw⟩ := word2 h h3
    have hb := word_no10 h (by unfold useWord; rw [h3]; rfl) b (by rw [hw]; simp)
    rw [hw]
    show (10 : UInt8) ∉ Lib.replaceAll s [a] [b]
    rw [replace_one]
    intro hm
    obtain ⟨z, hz, e⟩ := List.mem_map.1 hm
    split at e
    · exact hb e
    · exact hs (e ▸ hz)
  split
  · dsimp only
    split
    · simp
    · intro hm
      by_cases hi : (c.n - 1).toNat < (Lib.split s [32]).length
      · rw [List.getD_eq_getElem?_getD, List.getElem?_eq_getElem hi] at hm
        exact hs (split_mem [32] _ s _ (List.getElem_mem hi) 10 hm)
      · rw [List.getD_eq_getElem?_getD, List.getElem?_eq_none (by omega)] at hm
        simp at hm
  · simpa using hs
theorem linesC_noNl {c : Cmd} (h : checkCmd c = 0) (h8 : c.kind ≠ 8) {l : List Bs} (hl : NoNl l) : NoNl (linesC c l) := by
  unfold linesC
  split
  · exact noNl_perm (sortB_perm l) hl
  split
  · exact noNl_sub (onceB_sublist l) hl
  split
  · exact noNl_sub (List.take_sublist _ _) hl
  split
  · exact noNl_sub (List.drop_sublist _ _) hl
  · intro t ht
    obtain ⟨s, hs, e⟩ := List.mem_filterMap.1 ht
    exact outC_no10 h e (hl s hs)
theorem rot_perm (l : List Bs) (k : Nat) : (l.drop k ++ l.take k).Perm l := by
  have := (List.perm_append_comm : (l.drop k ++ l.take k).Perm (l.take k ++ l.drop k))
  rwa [List.take_append_drop] at this
theorem put_no {x : UInt8} (hx : x ≠ 10) : ∀ {l : List Bs}, (∀ s ∈ l, x ∉ s) → x ∉ put l
  | [], _ => by simp [put]
  | s :: r, h => by
    have h1 := h s (by simp)
    have h2 := put_no hx (l := r) fun t ht => h t (by simp [ht])
    unfold put
    simp only [List.mem_append, List.mem_cons, not_or]
    exact ⟨h1, hx, h2⟩
end Gv
end PartP5
section PartP7
/-! Joins, in plain words. -/
namespace Gv
open Go Gp
/-! ### Merged -/
def bestStep (b : Option (Nat × Bs)) (i : Nat) (l : List Bs) : Option (Nat × Bs) :=
  match l with
  | [] => b
  | s :: _ => match b with
    | none => some (i, s)
    | some (j, t) => if Op.bytesLess s t = true then some (i, s) else some (j, t)
/-- Of those that stand first, up to part i, the least one; of alike ones that of the first part. -/
def best (parts : List (List Bs)) : Nat → Option (Nat × Bs)
  | 0 => none
  | i + 1 => bestStep (best parts i) i (parts.getD i [])
def mergeN : Nat → List (List Bs) → List Bs
  | 0, _ => []
  | n + 1, parts => match best parts parts.length with
    | none => []
    | some (j, s) => s :: mergeN n (parts.set j ((parts.getD j []).drop 1))
def mergeB (parts : List (List Bs)) : List Bs := mergeN parts.flatten.length parts
theorem best_none {parts : List (List Bs)} : ∀ {i : Nat}, best parts i = none → ∀ k, k < i → parts.getD k [] = []
  | 0, _, k, hk => by omega
  | i + 1, h, k, hk => by
    unfold best bestStep at h
    split at h
    · rename_i e
      rcases Nat.lt_or_ge k i with h1 | h1
      · exact best_none h k h1
      · have : k = i := by omega
        rw [this, e]
    · split at h
      · cases h
      · split at h <;> cases h
theorem best_some {parts : List (List Bs)} : ∀ {i j : Nat} {s : Bs}, best parts i = some (j, s) → j < i ∧ (∃ t, parts.getD j [] = s :: t) ∧ ∀ k, k < i → ∀ x t, parts.getD k [] = x :: t → ¬ x < s
  | 0, j, s, h => by cases h
  | i + 1, j, s, h => by
    unfold best bestStep at h
    split at h
    · rename_i e
      obtain ⟨h1, h2, h3⟩ := best_some h
      refine ⟨by omega, h2, fun k hk x t hx => ?_⟩
      rcases Nat.lt_or_ge k i with h4 | h4
      · exact h3 k h4 x t hx
      · have : k = i := by omega
        subst this
        rw [e] at hx; cases hx
    · rename_i s' r e
      split at h
      · rename_i hb
        cases h
        refine ⟨by omega, ⟨_, e⟩, fun k hk x t hx => ?_⟩
        rcases Nat.lt_or_ge k i with h4 | h4
        · rw [best_none hb k h4] at hx; cases hx
        · have : k = i := by omega
          subst this
          rw [e] at hx; cases hx
          exact List.lt_irrefl _
      · rename_i j' t' hb
        obtain ⟨h1, h2, h3⟩ := best_some hb
        split at h
        · rename_i hl
          rw [less_eq, decide_eq_true_eq] at hl
          cases h
          refine ⟨by omega, ⟨_, e⟩, fun k hk x t hx => ?_⟩
          rcases Nat.lt_or_ge k i with h4 | h4
          · intro h5
            exact h3 k h4 x t hx (List.lt_trans h5 hl)
          · have : k = i := by omega
            subst this
            rw [e] at hx; cases hx
            exact List.lt_irrefl _
        · rename_i hl
          rw [less_eq, decide_eq_true_eq] at hl
          cases h
          refine ⟨by omega, h2, fun k hk x t hx => ?_⟩
          rcases Nat.lt_or_ge k i with h4 | h4
          · exact h3 k h4 x t hx
          · have : k = i := by omega
            subst this
            rw [e] at hx; cases hx
            exact hl
theorem all_nil {parts : List (List Bs)} (h : ∀ k, k < parts.length → parts.getD k [] = []) : parts.flatten = [] := by
  rw [List.flatten_eq_nil_iff]
  intro x hx
  obtain ⟨k, hk, rfl⟩ := List.getElem_of_mem hx
  have := h k hk
  rwa [List.getD_eq_getElem?_getD, List.getElem?_eq_getElem hk] at this
theorem getD_lt {parts : List (List Bs)} {j : Nat} {s : Bs} {t : List Bs} (h : parts.getD j [] = s :: t) : j < parts.length ∧ parts = parts.take j ++ (s :: t) :: parts.drop (j + 1) := by
  have hj : j < parts.length := by
    rcases Nat.lt_or_ge j parts.length with h1 | h1
    · exact h1
    · rw [List.getD_eq_getElem?_getD, List.getElem?_eq_none h1] at h; cases h
  refine ⟨hj, ?_⟩
  rw [List.getD_eq_getElem?_getD, List.getElem?_eq_getElem hj] at h
  have : parts[j] = s :: t := h
  rw [← this, List.getElem_cons_drop, List.take_append_drop]
theorem set_part {parts : List (List Bs)} {j : Nat} {s : Bs} {t : List Bs} (h : parts.getD j [] = s :: t) : parts.set j ((parts.getD j []).drop 1) = parts.take j ++ t :: parts.drop (j + 1) := by
  obtain ⟨hj, -⟩ := getD_lt h
  rw [h, List.set_eq_take_append_cons_drop, if_pos hj]
  rfl
theorem flat_part {parts : List (List Bs)} {j : Nat} {s : Bs} {t : List Bs} (h : parts.getD j [] = s :: t) : (s :: (parts.set j ((parts.getD j []).drop 1)).flatten).Perm parts.flatten := by
  obtain ⟨hj, e⟩ := getD_lt h
  rw [set_part h]
  have e2 : parts.flatten = (parts.take j).flatten ++ (s :: (t ++ (parts.drop (j + 1)).flatten)) := by
    have := congrArg List.flatten e
    rw [this]
    simp
  rw [e2]
  simp only [List.flatten_append, List.flatten_cons]
  exact (List.perm_middle).symm
theorem mergeB_step {parts : List (List Bs)} {j : Nat} {s : Bs} (h : best parts parts.length = some (j, s)) : mergeB parts = s :: mergeB (parts.set j ((parts.getD j []).drop 1)) := by
  obtain ⟨h1, ⟨t, h2⟩, -⟩ := best_some h
  have hl := (flat_part h2).length_eq
  rw [List.length_cons] at hl
  unfold mergeB
  rw [← hl, mergeN, h]
theorem mergeB_none {parts : List (List Bs)} (h : best parts parts.length = none) : mergeB parts = [] := by
  have := all_nil (best_none h)
  unfold mergeB
  rw [this]
  rfl
/-- By what stands first. -/
theorem merge_ind {P : List (List Bs) → Prop} (h0 : ∀ p, best p p.length = none → P p) (h1 : ∀ p j s t, best p p.length = some (j, s) → p.getD j [] = s :: t → P (p.set j ((p.getD j []).drop 1)) → P p) : ∀ p, P p := by
  intro p
  generalize hn : p.flatten.length = n
  induction n generalizing p with
  | zero =>
    cases h : best p p.length with
    | none => exact h0 p h
    | some x =>
      obtain ⟨j, s⟩ := x
      obtain ⟨-, ⟨t, h2⟩, -⟩ := best_some h
      have := (flat_part h2).length_eq
      rw [List.length_cons] at this
      omega
  | succ n ih =>
    cases h : best p p.length with
    | none => exact h0 p h
    | some x =>
      obtain ⟨j, s⟩ := x
      obtain ⟨-, ⟨t, h2⟩, -⟩ := best_some h
      have hl := (flat_part h2).length_eq
      rw [List.length_cons] at hl
      exact h1 p j s t h h2 (ih _ (by omega))
theorem mergeB_perm : ∀ p : List (List Bs), (mergeB p).Perm p.flatten := by
  intro p
  induction p using merge_ind with
  | h0 p h => rw [mergeB_none h, all_nil (best_none h)]
  | h1 p j s t h h2 ih =>
    rw [mergeB_step h]
    exact (ih.cons s).trans (flat_part h2)
theorem mergeB_sorted : ∀ p : List (List Bs), (∀ l ∈ p, l.Pairwise (· ≤ ·)) → (mergeB p).Pairwise (· ≤ ·) := by
  intro p
  induction p using merge_ind with
  | h0 p h => intro _; rw [mergeB_none h]; exact List.Pairwise.nil
  | h1 p j s t h h2 ih =>
    intro hp
    obtain ⟨hj, e⟩ := getD_lt h2
    obtain ⟨-, -, h3⟩ := best_some h
    have hs : ∀ l ∈ p.set j ((p.getD j []).drop 1), l.Pairwise (· ≤ ·) := fun l hl => by
      rw [set_part h2] at hl
      rw [e] at hp
      simp only [List.mem_append, List.mem_cons] at hl hp
      rcases hl with hl | rfl | hl
      · exact hp l (.inl hl)
      · exact (List.pairwise_cons.1 (hp (s :: l) (.inr (.inl rfl)))).2
      · exact hp l (.inr (.inr hl))
    rw [mergeB_step h, List.pairwise_cons]
    refine ⟨fun x hx => ?_, ih hs⟩
    have hx2 : x ∈ p.flatten := (flat_part h2).mem_iff.1 (List.mem_cons_of_mem _ ((mergeB_perm _).mem_iff.1 hx))
    obtain ⟨l, hl, hxl⟩ := List.mem_flatten.1 hx2
    obtain ⟨k, hk, rfl⟩ := List.getElem_of_mem hl
    cases hq : p[k] with
    | nil => rw [hq] at hxl; cases hxl
    | cons y r =>
      have hy : ¬ y < s := h3 k hk y r (by rw [List.getD_eq_getElem?_getD, List.getElem?_eq_getElem hk]; exact hq)
      have hsy : s ≤ y := hy
      rw [hq] at hxl
      rcases List.mem_cons.1 hxl with rfl | hxr
      · exact hsy
      · have := hp _ hl
        rw [hq, List.pairwise_cons] at this
        exact List.le_trans hsy (this.1 x hxr)
theorem mergeB_eq {p : List (List Bs)} (h : ∀ l ∈ p, l.Pairwise (· ≤ ·)) : mergeB p = sortB p.flatten := (sortB_of (mergeB_perm p).symm (mergeB_sorted p h)).symm
theorem mergeB_len (p : List (List Bs)) : (mergeB p).length = p.flatten.length := (mergeB_perm p).length_eq
/-! ### Summed -/
/-- What is no number is 0. -/
def numOf (s : Bs) : Int := match Lib.atoiAll s with | .ok k => if 0 ≤ k ∧ k ≤ 4000 ∧ Lib.itoa k = s then k else 0 | _ => 0
def numH (l : List Bs) : Int := match l with | [] => 0 | s :: _ => numOf s
def sumN (parts : List (List Bs)) : Nat → Int
  | 0 => 0
  | i + 1 => sumN parts i + numH (parts.getD i [])
theorem numOf_bnd (s : Bs) : 0 ≤ numOf s ∧ numOf s ≤ 4000 := by
  unfold numOf
  split
  · split <;> omega
  · omega
theorem numH_bnd (l : List Bs) : 0 ≤ numH l ∧ numH l ≤ 4000 := by
  cases l with
  | nil => simp [numH]
  | cons s r => exact numOf_bnd s
theorem sumN_bnd (parts : List (List Bs)) : ∀ i, 0 ≤ sumN parts i ∧ sumN parts i ≤ 4000 * i
  | 0 => by simp [sumN]
  | i + 1 => by
    have h1 := sumN_bnd parts i
    have h2 := numH_bnd (parts.getD i [])
    unfold sumN
    omega
theorem pu_cons (acc : Nat) (c : UInt8) (r : Bs) : Lib.parseUint10 acc (c :: r) = if 48 ≤ c.toNat ∧ c.toNat ≤ 57 then if 1844674407370955162 ≤ acc then .range else if 18446744073709551616 ≤ acc * 10 + (c.toNat - 48) then .range else Lib.parseUint10 (acc * 10 + (c.toNat - 48)) r else Lib.NumEnd.syntax := rfl
theorem parseUint_app : ∀ (a b : Bs) (acc : Nat), Lib.parseUint10 acc (a ++ b) = match Lib.parseUint10 acc a with | .ok u => Lib.parseUint10 u b | Lib.NumEnd.syntax => Lib.NumEnd.syntax | .range => .range
  | [], b, acc => rfl
  | c :: a, b, acc => by
    rw [List.cons_append, pu_cons, pu_cons]
    split
    · split
      · rfl
      · split
        · rfl
        · exact parseUint_app a b _
    · rfl
theorem parse_dec (u : Nat) (h : u < 1844674407370955161) : Lib.parseUint10 0 (Lib.decDigits u) = .ok u := by
  induction u using Nat.strongRecOn with
  | _ u ih =>
    rw [Lib.decDigits]
    split
    · rename_i h1
      have e : (UInt8.ofNat (48 + u)).toNat = 48 + u := by
        rw [UInt8.toNat_ofNat']; omega
      unfold Lib.parseUint10
      rw [e, if_pos (by omega), if_neg (by omega), if_neg (by omega)]
      unfold Lib.parseUint10
      congr 1; omega
    · rename_i h1
      rw [parseUint_app, ih (u / 10) (by omega) (by omega)]
      have e : (UInt8.ofNat (48 + u % 10)).toNat = 48 + u % 10 := by
        rw [UInt8.toNat_ofNat']; omega
      dsimp only
      unfold Lib.parseUint10
      rw [e, if_pos (by omega), if_neg (by omega), if_neg (by omega)]
      unfold Lib.parseUint10
      congr 1; omega
theorem dec_bytes (u : Nat) : ∀ c ∈ Lib.decDigits u, 48 ≤ c.toNat ∧ c.toNat ≤ 57 := by
  induction u using Nat.strongRecOn with
  | _ u ih =>
    rw [Lib.decDigits]
    split
    · intro c hc
      simp at hc
      subst hc
      rw [UInt8.toNat_add, UInt8.toNat_ofNat']
      simp; omega
    · intro c hc
      rcases List.mem_append.1 hc with hc | hc
      · exact ih (u / 10) (by omega) c hc
      · simp at hc
        subst hc
        rw [UInt8.toNat_add, UInt8.toNat_ofNat']
        simp; omega
theorem dec_ne (u : Nat) : Lib.decDigits u ≠ [] := by
  rw [Lib.decDigits]
  split <;> simp
theorem atoi_itoa {n : Nat} (h : n < 1844674407370955161) : Lib.atoiAll (Lib.itoa n) = .ok (n : Int) := by
  rw [Lib.itoa_nonneg]
  have hp := parse_dec n h
  cases hd : Lib.decDigits n with
  | nil => exact absurd hd (dec_ne n)
  | cons c r =>
    have hc := dec_bytes n c (by rw [hd]; simp)
    rw [Lib.atoiAll_plain c r (by omega) (by omega)]
    unfold Lib.parseMag
    rw [if_neg (by simp), ← hd, hp]
    show (if 9223372036854775808 ≤ n then Lib.NumEnd.range else .ok (n : Int)) = _
    rw [if_neg (by omega)]
theorem numOf_itoa {n : Nat} (h : n ≤ 4000) : numOf (Lib.itoa n) = n := by
  unfold numOf
  rw [atoi_itoa (by omega)]
  dsimp only
  rw [if_pos ⟨by omega, by omega, rfl⟩]
theorem itoa_no10 (n : Nat) : (10 : UInt8) ∉ Lib.itoa n := by
  rw [Lib.itoa_nonneg]
  intro h
  have := dec_bytes n 10 h
  simp at this
end Gv
end PartP7
section PartP8
/-! What joins come to, in plain words. -/
namespace Gv
open Go Gp
/-! ### Of lines that are alike one -/
theorem upto_snoc (l : List Bs) (x : Bs) : ∀ m, m ≤ l.length → Lib.compactUpTo (l ++ [x]).toArray m = Lib.compactUpTo l.toArray m
  | 0, _ => rfl
  | m + 1, h => by
    have ih := upto_snoc l x m (by omega)
    have hg : ∀ j, j < l.length → (l ++ [x]).toArray[j]! = l.toArray[j]! := fun j hj => by
      rw [getElem!_pos _ _ (by simp; omega), getElem!_pos _ _ (by simpa using hj)]
      simp [List.getElem_append_left hj]
    rw [Lib.compactUpTo_succ, Lib.compactUpTo_succ, ih, hg m (by omega)]
    have hk : Lib.keeps (l ++ [x]).toArray m = Lib.keeps l.toArray m := by
      unfold Lib.keeps
      rw [hg m (by omega), hg (m - 1) (by omega)]
    rw [hk]
theorem snoc_ind {α : Type} {P : List α → Prop} (h0 : P []) (h1 : ∀ a x, P a → P (a ++ [x])) : ∀ l, P l := fun l => by
  rw [← List.reverse_reverse l]
  generalize l.reverse = r
  induction r with
  | nil => exact h0
  | cons x r ih => rw [List.reverse_cons]; exact h1 _ x ih
theorem onceB_snoc (l : List Bs) (x : Bs) : onceB (l ++ [x]) = if l.getLast? = some x then onceB l else onceB l ++ [x] := by
  unfold onceB Lib.compact
  rw [List.length_append, List.length_singleton, Lib.compactUpTo_succ, upto_snoc l x _ (Nat.le_refl _)]
  have e : (l ++ [x]).toArray[l.length]! = x := by
    rw [getElem!_pos _ _ (by simp)]
    simp
  rw [e]
  induction l using snoc_ind with
  | h0 => simp [Lib.keeps_lt_one _ 0 (by omega)]
  | h1 a y _ =>
    have hk : Lib.keeps (a ++ [y] ++ [x]).toArray (a ++ [y]).length = decide (x ≠ y) := by
      unfold Lib.keeps
      rw [e]
      have e2 : (a ++ [y] ++ [x]).toArray[(a ++ [y]).length - 1]! = y := by
        rw [getElem!_pos _ _ (by simp)]
        simp
      rw [e2]
      simp
    rw [hk, List.getLast?_append]
    by_cases h : y = x
    · subst h; simp
    · have h2 : ¬ x = y := fun e => h e.symm
      simp [h, h2]
theorem onceB_last (l : List Bs) : (onceB l).getLast? = l.getLast? := by
  induction l using snoc_ind with
  | h0 => rfl
  | h1 a x ih =>
    rw [onceB_snoc]
    split
    · rename_i h
      rw [ih, h]; simp
    · simp
theorem onceB_left (a b : List Bs) : onceB (onceB a ++ b) = onceB (a ++ b) := by
  induction b using snoc_ind with
  | h0 => simp [compact_idem]
  | h1 b x ih =>
    rw [← List.append_assoc, ← List.append_assoc, onceB_snoc, onceB_snoc, ih]
    have : (onceB a ++ b).getLast? = (a ++ b).getLast? := by
      rw [List.getLast?_append, List.getLast?_append, onceB_last]
    rw [this]
theorem onceB_right (a b : List Bs) : onceB (a ++ onceB b) = onceB (a ++ b) := by
  induction b using snoc_ind with
  | h0 => rfl
  | h1 b x ih =>
    rw [onceB_snoc]
    split
    · rename_i h
      rw [ih, ← List.append_assoc, onceB_snoc, if_pos]
      rw [List.getLast?_append, h]; rfl
    · rw [← List.append_assoc, ← List.append_assoc, onceB_snoc, onceB_snoc, ih]
      have : (a ++ onceB b).getLast? = (a ++ b).getLast? := by
        rw [List.getLast?_append, List.getLast?_append, onceB_last]
      rw [this]
theorem onceB_flat : ∀ l : List (List Bs), onceB (l.map onceB).flatten = onceB l.flatten
  | [] => rfl
  | a :: r => by
    rw [List.map_cons, List.flatten_cons, List.flatten_cons, onceB_left, ← onceB_right, onceB_flat r, onceB_right]
/-! ### The first ones, the last ones -/
theorem take_flat (n : Nat) : ∀ (l : List (List Bs)) (k : Nat), k ≤ n → (l.map fun a => a.take n).flatten.take k = l.flatten.take k
  | [], k, _ => rfl
  | a :: r, k, hk => by
    rw [List.map_cons, List.flatten_cons, List.flatten_cons, List.take_append, List.take_append, List.take_take, Nat.min_eq_left hk, List.length_take]
    have ih := take_flat n r (k - a.length) (by omega)
    by_cases h : a.length ≤ n
    · rw [Nat.min_eq_right h, ih]
    · rw [Nat.min_eq_left (by omega), show k - n = 0 by omega, show k - a.length = 0 by omega]
      simp
def lastN (n : Nat) (l : List Bs) : List Bs := l.drop (l.length - n)
theorem lastN_rev (n : Nat) (l : List Bs) : lastN n l = (l.reverse.take n).reverse := by
  unfold lastN
  rw [List.take_reverse, List.reverse_reverse]
theorem last_flat (n : Nat) (l : List (List Bs)) : lastN n (l.map (lastN n)).flatten = lastN n l.flatten := by
  rw [lastN_rev, lastN_rev, List.reverse_flatten, List.reverse_flatten]
  congr 1
  have e : ((l.map (lastN n)).map List.reverse).reverse = ((l.map List.reverse).reverse).map fun a => a.take n := by
    rw [List.map_map, List.map_reverse, List.map_map]
    congr 1
    refine List.map_congr_left fun a _ => ?_
    show (lastN n a).reverse = _
    rw [lastN_rev, List.reverse_reverse]
    rfl
  rw [e, take_flat n _ n (Nat.le_refl _)]
/-! ### Joins -/
def joinB (how : Int) (c : Cmd) (p : List (List Bs)) : List Bs :=
  if how = 2 then mergeB p else if how = 3 then [Lib.itoa (sumN p p.length)] else if how = 4 then linesC c p.flatten else p.flatten
def checkJoin (how : Int) (c : Cmd) : Int := if how < 1 ∨ 4 < how then 4 else if how ≠ 4 then (if c ≠ zCmd then 4 else 0) else checkCmd c
def joinDo (how : Int) (c : Cmd) (p : List Bs) : Bs × Int :=
  if checkJoin how c ≠ 0 then ([], checkJoin how c) else if 5 < p.length then ([], 2) else if 4000 < p.flatten.length then ([], 2) else (put (joinB how c (p.map linesOf)), 0)
theorem filterMap_flat (f : Bs → Option Bs) : ∀ l : List (List Bs), (l.map fun a => a.filterMap f).flatten = l.flatten.filterMap f
  | [] => rfl
  | a :: r => by rw [List.map_cons, List.flatten_cons, List.flatten_cons, List.filterMap_append, filterMap_flat f r]
theorem sumN_counts : ∀ (l : List (List Bs)), (∀ a ∈ l, a.length ≤ 4000) → ∀ i, i ≤ l.length → sumN (l.map fun a => [Lib.itoa a.length]) i = ((l.take i).flatten.length : Int)
  | l, h, 0, _ => by simp [sumN]
  | l, h, i + 1, hi => by
    have ih := sumN_counts l h i (by omega)
    unfold sumN
    rw [ih, List.take_succ_eq_append_getElem (by omega)]
    have e : (l.map fun a => [Lib.itoa (a.length : Int)]).getD i [] = [Lib.itoa ((l[i]).length : Int)] := by
      rw [List.getD_eq_getElem?_getD, List.getElem?_map, List.getElem?_eq_getElem (by omega)]; rfl
    rw [e]
    show _ + numOf _ = _
    rw [numOf_itoa (h _ (List.getElem_mem _))]
    simp only [List.flatten_append, List.length_append, List.flatten_cons, List.flatten_nil, List.append_nil]
    omega
theorem kinds {c : Cmd} (h : checkCmd c = 0) : c.kind = 1 ∨ c.kind = 2 ∨ c.kind = 3 ∨ c.kind = 4 ∨ c.kind = 5 ∨ c.kind = 6 ∨ c.kind = 7 ∨ c.kind = 8 ∨ c.kind = 9 ∨ c.kind = 10 := by
  unfold checkCmd at h
  grind
/-- How a command's parts are joined is what it does to the whole. -/
theorem join_whole {c : Cmd} (h : checkCmd c = 0) (l : List (List Bs)) (hl : ∀ a ∈ l, a.length ≤ 4000) : joinB (howFor c) (if howFor c = 4 then c else zCmd) (l.map (linesC c)) = linesC c l.flatten := by
  have each : c.kind < 6 → ∀ a, linesC c a = a.filterMap (outC c) := fun hk a => by
    unfold linesC
    rw [if_neg (by omega), if_neg (by omega), if_neg (by omega), if_neg (by omega), if_neg (by omega)]
  have heach : c.kind < 6 → howFor c = 1 → joinB (howFor c) (if howFor c = 4 then c else zCmd) (l.map (linesC c)) = linesC c l.flatten := fun hk hh => by
    unfold joinB
    rw [hh, if_neg (by decide), if_neg (by decide), if_neg (by decide), each hk, ← filterMap_flat]
    congr 1
    exact List.map_congr_left fun a _ => each hk a
  have hf : ∀ n, howFor c = n → howFor c = n := fun n h => h
  rcases kinds h with k | k | k | k | k | k | k | k | k | k
  · exact heach (by omega) (by unfold howFor; rw [k]; rfl)
  · exact heach (by omega) (by unfold howFor; rw [k]; rfl)
  · exact heach (by omega) (by unfold howFor; rw [k]; rfl)
  · exact heach (by omega) (by unfold howFor; rw [k]; rfl)
  · exact heach (by omega) (by unfold howFor; rw [k]; rfl)
  · have e : ∀ a, linesC c a = sortB a := fun a => by unfold linesC; rw [if_pos k]
    have e2 : howFor c = 2 := by unfold howFor; rw [k]; rfl
    unfold joinB
    rw [e2, if_pos rfl, e, mergeB_eq]
    · refine sortB_congr ?_
      have : ∀ l : List (List Bs), (l.map (linesC c)).flatten.Perm l.flatten := fun l => by
        induction l with
        | nil => exact .refl _
        | cons a r ih =>
          rw [List.map_cons, List.flatten_cons, List.flatten_cons, e]
          exact (sortB_perm a).append ih
      exact this l
    · intro x hx
      obtain ⟨a, -, rfl⟩ := List.mem_map.1 hx
      rw [e]
      exact sortB_pairwise a
  · have e : ∀ a, linesC c a = onceB a := fun a => by unfold linesC; rw [if_neg (by omega), if_pos k]
    have e2 : howFor c = 4 := by unfold howFor; rw [k]; rfl
    unfold joinB
    rw [e2, if_neg (by decide), if_neg (by decide), if_pos rfl, if_pos rfl, e, e]
    have : l.map (linesC c) = l.map onceB := List.map_congr_left fun a _ => e a
    rw [this, onceB_flat]
  · have e : ∀ a, linesC c a = [Lib.itoa a.length] := fun a => by unfold linesC; rw [if_neg (by omega), if_neg (by omega), if_pos k]
    have e2 : howFor c = 3 := by unfold howFor; rw [k]; rfl
    unfold joinB
    rw [e2, if_neg (by decide), if_pos rfl, e]
    have : l.map (linesC c) = l.map fun a => [Lib.itoa a.length] := List.map_congr_left fun a _ => e a
    rw [this, List.length_map, sumN_counts l hl _ (Nat.le_refl _), List.take_length]
  · have e : ∀ a, linesC c a = a.take c.n.toNat := fun a => by unfold linesC; rw [if_neg (by omega), if_neg (by omega), if_neg (by omega), if_pos k]
    have e2 : howFor c = 4 := by unfold howFor; rw [k]; rfl
    unfold joinB
    rw [e2, if_neg (by decide), if_neg (by decide), if_pos rfl, if_pos rfl, e, e]
    have : l.map (linesC c) = l.map fun a => a.take c.n.toNat := List.map_congr_left fun a _ => e a
    rw [this, take_flat _ _ _ (Nat.le_refl _)]
  · have e : ∀ a, linesC c a = lastN c.n.toNat a := fun a => by unfold linesC; rw [if_neg (by omega), if_neg (by omega), if_neg (by omega), if_neg (by omega), if_pos k]; rfl
    have e2 : howFor c = 4 := by unfold howFor; rw [k]; rfl
    unfold joinB
    rw [e2, if_neg (by decide), if_neg (by decide), if_pos rfl, if_pos rfl, e, e]
    have : l.map (linesC c) = l.map (lastN c.n.toNat) := List.map_congr_left fun a _ => e a
    rw [this, last_flat]
theorem put_flat (p : List Bs) : (put (p.map linesOf).flatten).length ≤ p.flatten.length + p.length := by
  induction p with
  | nil => simp [put]
  | cons b r ih =>
    have h := put_lines b
    simp only [List.map_cons, List.flatten_cons, put_append, List.length_append, List.length_cons]
    omega
theorem joinB_put {h : Int} {c : Cmd} (hc : h = 4 → checkCmd c = 0) (p : List (List Bs)) (hp : p.length ≤ 1000) (hl : p.flatten.length ≤ 100000) : (put (joinB h c p)).length ≤ (put p.flatten).length + 30 := by
  unfold joinB
  split
  · rw [put_perm (mergeB_perm p)]; omega
  · split
    · have hb := sumN_bnd p p.length
      have := itoa_len (sumN p p.length) (by omega)
      simp only [put, List.length_append, List.length_cons, List.length_nil]
      omega
    · split
      · rename_i h4
        exact linesC_put (hc h4) _ hl
      · omega
end Gv
end PartP8
section PartP9
/-! Files, in plain words. -/
namespace Gv
open Go Gp
def notRise (q : Option Bs) (n : Bs) : Bool := match q with | none => false | some q => !Op.bytesLess q n
/-- By name, rising. -/
def filesGo : Option Bs → List FileS → Int
  | _, [] => 0
  | q, f :: r => if isWord f.name = false then 1 else if 4000 < f.b.length then 2 else if notRise q f.name = true then 6 else filesGo (some f.name) r
def checkFiles (l : List FileS) : Int := if 12 < l.length then 2 else filesGo none l
def prevN (l : List FileS) (i : Nat) : Option Bs := if i = 0 then none else some (l.getD (i - 1) ⟨[], []⟩).name
def notLess (n : Bs) (f : FileS) : Bool := !Op.bytesLess f.name n
def placeI (l : List FileS) (n : Bs) : Nat := l.findIdx (notLess n)
def isAt (l : List FileS) (n : Bs) : Bool := match l[placeI l n]? with | some f => decide (f.name = n) | none => false
/-- A file's bytes. -/
def fileAt (l : List FileS) (n : Bs) : Bs := match l[placeI l n]? with | some f => if f.name = n then f.b else [] | none => []
theorem filesGo_at {l : List FileS} {i : Nat} (h : i < l.length) : filesGo (prevN l i) (l.drop i) = if isWord l[i].name = false then 1 else if 4000 < l[i].b.length then 2 else if notRise (prevN l i) l[i].name = true then 6 else filesGo (prevN l (i + 1)) (l.drop (i + 1)) := by
  rw [List.drop_eq_getElem_cons h, filesGo]
  have e : prevN l (i + 1) = some l[i].name := by
    unfold prevN
    rw [if_neg (by omega), Nat.add_sub_cancel, List.getD_eq_getElem?_getD, List.getElem?_eq_getElem h]
    rfl
  rw [e]
theorem filesGo_ok : ∀ {l : List FileS} {q : Option Bs}, filesGo q l = 0 → ∀ f ∈ l, isWord f.name = true ∧ f.b.length ≤ 4000
  | [], q, _, f, hf => by cases hf
  | g :: r, q, h, f, hf => by
    rw [filesGo] at h
    split at h
    · cases h
    · rename_i h1
      split at h
      · cases h
      · rename_i h2
        split at h
        · cases h
        · rcases List.mem_cons.1 hf with rfl | hf
          · exact ⟨by simpa using h1, by omega⟩
          · exact filesGo_ok h f hf
theorem checkFiles_ok {l : List FileS} (h : checkFiles l = 0) : l.length ≤ 12 ∧ ∀ f ∈ l, isWord f.name = true ∧ f.b.length ≤ 4000 := by
  unfold checkFiles at h
  split at h
  · cases h
  · exact ⟨by omega, filesGo_ok h⟩
theorem place_at {l : List FileS} {n : Bs} {i : Nat} (h : i < l.length) (h1 : notLess n l[i] = true) (h2 : ∀ j (h : j < l.length), j < i → notLess n l[j] = false) : placeI l n = i := by
  unfold placeI
  rw [List.findIdx_eq h]
  exact ⟨h1, fun j hj => h2 j (by omega) hj⟩
theorem place_end {l : List FileS} {n : Bs} (h2 : ∀ j (h : j < l.length), notLess n l[j] = false) : placeI l n = l.length := by
  unfold placeI
  rw [List.findIdx_eq_length]
  intro x hx
  obtain ⟨j, hj, rfl⟩ := List.getElem_of_mem hx
  exact h2 j hj
theorem place_le (l : List FileS) (n : Bs) : placeI l n ≤ l.length := List.findIdx_le_length
theorem fileAt_len {l : List FileS} (h : ∀ f ∈ l, f.b.length ≤ 4000) (n : Bs) : (fileAt l n).length ≤ 4000 := by
  unfold fileAt
  split
  · rename_i f hf
    split
    · exact h f (List.mem_of_getElem? hf)
    · simp
  · simp
def gatherGo (l : List FileS) : Bs → List Bs → Bs × Int
  | out, [] => (out, 0)
  | out, s :: r => if 4000 < out.length + (whole (fileAt l s)).length then ([], 2) else gatherGo l (out ++ whole (fileAt l s)) r
def gatherS (l : List FileS) (f : List Bs) : Bs × Int := if checkFiles l ≠ 0 then ([], checkFiles l) else if 4 < f.length then ([], 2) else gatherGo l [] f
theorem gatherGo_len (l : List FileS) : ∀ (f : List Bs) (out : Bs), out.length ≤ 4000 → (gatherGo l out f).1.length ≤ 4000
  | [], out, h => h
  | s :: r, out, h => by
    rw [gatherGo]
    split
    · simp
    · refine gatherGo_len l r _ ?_
      rw [List.length_append]; omega
theorem gatherS_len (l : List FileS) (f : List Bs) : (gatherS l f).1.length ≤ 4000 := by
  unfold gatherS
  split
  · simp
  · split
    · simp
    · exact gatherGo_len l f [] (by simp)
def doLines (cs : List Cmd) (s : List Bs) : List Bs := cs.foldl (fun s c => linesC c s) s
theorem doLines_take {cs : List Cmd} {s : List Bs} {i : Nat} (h : i < cs.length) : doLines (cs.take (i + 1)) s = linesC cs[i] (doLines (cs.take i) s) := by
  unfold doLines
  rw [List.take_succ_eq_append_getElem h, List.foldl_append]
  rfl
theorem put_el {l : List Bs} {s : Bs} (h : s ∈ l) : s.length ≤ (put l).length := by
  induction l with
  | nil => cases h
  | cons x r ih =>
    rw [put, List.length_append, List.length_cons]
    rcases List.mem_cons.1 h with rfl | h
    · omega
    · have := ih h; omega
theorem doLines_put {cs : List Cmd} (hc : ∀ c ∈ cs, checkCmd c = 0) {s : List Bs} (hs : (put s).length ≤ 10000) (hn : cs.length ≤ 1000) : ∀ i, i ≤ cs.length → (put (doLines (cs.take i) s)).length ≤ (put s).length + 30 * i
  | 0, _ => by simp [doLines]
  | i + 1, hi => by
    have ih := doLines_put hc hs hn i (by omega)
    rw [doLines_take (by omega)]
    have h1 := put_len (l := doLines (cs.take i) s) (n := 100000) (by omega)
    have := linesC_put (hc cs[i] (List.getElem_mem _)) (doLines (cs.take i) s) h1
    omega
end Gv
end PartP9
section PartP10
/-! Parts and the whole, in plain words. -/
namespace Gv
open Go Gp
theorem linesC_no {c : Cmd} (h : checkCmd c = 0) {l : List Bs} (hl : NoNl l) : NoNl (linesC c l) := by
  by_cases h8 : c.kind = 8
  · have e : linesC c l = [Lib.itoa l.length] := by unfold linesC; rw [if_neg (by omega), if_neg (by omega), if_pos h8]
    rw [e]
    intro s hs
    simp at hs
    subst hs
    exact itoa_no10 _
  · exact linesC_noNl h h8 hl
theorem lines_whole : ∀ p : List Bs, linesOf (p.map whole).flatten = (p.map linesOf).flatten
  | [] => rfl
  | b :: r => by
    rw [List.map_cons, List.flatten_cons, List.map_cons, List.flatten_cons]
    show linesOf (put (linesOf b) ++ _) = _
    rw [linesOf_append (linesOf_no10 b), lines_whole r]
theorem whole_flat (p : List Bs) : (p.map whole).flatten.length ≤ p.flatten.length + p.length := by
  induction p with
  | nil => simp
  | cons b r ih =>
    have h := whole_len b
    simp only [List.map_cons, List.flatten_cons, List.length_append, List.length_cons]
    omega
theorem done_flat {c : Cmd} (h : checkCmd c = 0) (p : List Bs) (hp : ∀ b ∈ p, b.length ≤ 10000) : (p.map fun b => put (linesC c (linesOf b))).flatten.length ≤ p.flatten.length + 31 * p.length := by
  induction p with
  | nil => simp
  | cons b r ih =>
    have h0 := hp b (by simp)
    have h1 := linesOf_len b
    have h2 := put_lines b
    have h3 := linesC_put h (linesOf b) (by omega)
    have ih := ih fun x hx => hp x (by simp [hx])
    simp only [List.map_cons, List.flatten_cons, List.length_append, List.length_cons]
    omega
theorem checkJoin_for {c : Cmd} (h : checkCmd c = 0) : checkJoin (howFor c) (if howFor c = 4 then c else zCmd) = 0 := by
  have hf : howFor c = 1 ∨ howFor c = 2 ∨ howFor c = 3 ∨ howFor c = 4 := by
    unfold howFor
    split
    · simp
    · split
      · simp
      · split <;> simp
  unfold checkJoin
  rcases hf with e | e | e | e <;> rw [e] <;> simp [h]
theorem el_flat {p : List Bs} {b : Bs} (h : b ∈ p) : b.length ≤ p.flatten.length := by
  induction p with
  | nil => cases h
  | cons x r ih =>
    rw [List.flatten_cons, List.length_append]
    rcases List.mem_cons.1 h with rfl | h
    · omega
    · have := ih h; omega
theorem whole_law {c : Cmd} (h : checkCmd c = 0) (p : List Bs) (h1 : p.length ≤ 5) (h2 : p.flatten.length ≤ 2000) :
    joinDo (howFor c) (if howFor c = 4 then c else zCmd) (p.map fun b => put (linesC c (linesOf b))) = (put (linesC c (p.map linesOf).flatten), 0) ∧ doC c (p.map whole).flatten = (put (linesC c (p.map linesOf).flatten), 0) := by
  have hb : ∀ b ∈ p, b.length ≤ 2000 := fun b hb => Nat.le_trans (el_flat hb) h2
  refine ⟨?_, ?_⟩
  · have hd := done_flat h p fun b hm => by have := hb b hm; omega
    unfold joinDo
    rw [checkJoin_for h, if_neg (by simp), if_neg (by rw [List.length_map]; omega), if_neg (by omega)]
    congr 1
    have e : (p.map fun b => put (linesC c (linesOf b))).map linesOf = (p.map linesOf).map (linesC c) := by
      rw [List.map_map, List.map_map]
      refine List.map_congr_left fun b _ => ?_
      show linesOf (put (linesC c (linesOf b))) = _
      rw [linesOf_put (linesC_no h (linesOf_no10 b))]
      rfl
    rw [e, join_whole h]
    intro a ha
    obtain ⟨b, hm, rfl⟩ := List.mem_map.1 ha
    have := linesOf_len b
    have := hb b hm
    omega
  · have hw := whole_flat p
    rw [doC_at h (by omega), lines_whole]
end Gv
end PartP10
section PartP11
/-! Joined two by two, in plain words. -/
namespace Gv
open Go Gp
def jd (h : Int) (c : Cmd) (l : List Bs) : Bs := put (joinB h c (l.map linesOf))
theorem checkJoin_four {h : Int} {c : Cmd} (hc : checkJoin h c = 0) : (h = 4 → checkCmd c = 0) ∧ 1 ≤ h ∧ h ≤ 4 := by
  unfold checkJoin at hc
  split at hc
  · cases hc
  · rename_i h1
    refine ⟨fun h4 => ?_, by omega, by omega⟩
    rw [if_neg (by omega)] at hc
    exact hc
theorem jdo_ok {h : Int} {c : Cmd} (hc : checkJoin h c = 0) {l : List Bs} (h5 : l.length ≤ 5) (hl : l.flatten.length ≤ 4000) : joinDo h c l = (jd h c l, 0) := by
  unfold joinDo
  rw [hc, if_neg (by simp), if_neg (by omega), if_neg (by omega)]
  rfl
theorem jd_len {h : Int} {c : Cmd} (hc : checkJoin h c = 0) {l : List Bs} (h5 : l.length ≤ 5) (hl : l.flatten.length ≤ 4000) : (jd h c l).length ≤ l.flatten.length + l.length + 30 := by
  have h1 := put_flat l
  have h2 := put_len (l := (l.map linesOf).flatten) (n := 5000) (by omega)
  have h3 := joinB_put (checkJoin_four hc).1 (l.map linesOf) (by rw [List.length_map]; omega) (by omega)
  unfold jd
  omega
theorem noNl_flat {l : List (List Bs)} (h : ∀ a ∈ l, NoNl a) : NoNl l.flatten := fun s hs => by
  obtain ⟨a, ha, hsa⟩ := List.mem_flatten.1 hs
  exact h a ha s hsa
theorem joinB_no {h : Int} {c : Cmd} (hc : checkJoin h c = 0) {l : List (List Bs)} (hl : ∀ a ∈ l, NoNl a) : NoNl (joinB h c l) := by
  obtain ⟨h4, h1, h2⟩ := checkJoin_four hc
  unfold joinB
  split
  · exact noNl_perm (mergeB_perm l) (noNl_flat hl)
  · split
    · intro s hs
      simp at hs
      subst hs
      have hb := sumN_bnd l l.length
      obtain ⟨n, hn⟩ : ∃ n : Nat, sumN l l.length = n := ⟨(sumN l l.length).toNat, by omega⟩
      rw [hn]
      exact itoa_no10 n
    · split
      · rename_i e
        exact linesC_no (h4 e) (noNl_flat hl)
      · exact noNl_flat hl
theorem lines_jd {h : Int} {c : Cmd} (hc : checkJoin h c = 0) (l : List Bs) : linesOf (jd h c l) = joinB h c (l.map linesOf) := by
  unfold jd
  refine linesOf_put (joinB_no hc fun a ha => ?_)
  obtain ⟨b, -, rfl⟩ := List.mem_map.1 ha
  exact linesOf_no10 b
theorem sum3 (A B D : List Bs) : sumN [A, B, D] 3 = numH A + numH B + numH D := by
  show ((0 + numH A) + numH B) + numH D = _
  omega
theorem sum2 (A B : List Bs) : sumN [A, B] 2 = numH A + numH B := by
  show (0 + numH A) + numH B = _
  omega
theorem numH_itoa {k : Int} (h0 : 0 ≤ k) (h : k ≤ 4000) : numH [Lib.itoa k] = k := by
  obtain ⟨n, rfl⟩ : ∃ n : Nat, k = n := ⟨k.toNat, by omega⟩
  exact numOf_itoa (by omega)
theorem again_left {c : Cmd} (hk : c.kind = 7 ∨ c.kind = 9 ∨ c.kind = 10) (X D : List Bs) : linesC c (linesC c X ++ D) = linesC c (X ++ D) := by
  rcases hk with k | k | k
  · have e : ∀ a, linesC c a = onceB a := fun a => by unfold linesC; rw [if_neg (by omega), if_pos k]
    rw [e, e, e, onceB_left]
  · have e : ∀ a, linesC c a = a.take c.n.toNat := fun a => by unfold linesC; rw [if_neg (by omega), if_neg (by omega), if_neg (by omega), if_pos k]
    rw [e, e, e]
    have h := take_flat c.n.toNat [X, D] c.n.toNat (Nat.le_refl _)
    have h2 := take_flat c.n.toNat [X.take c.n.toNat, D] c.n.toNat (Nat.le_refl _)
    simp only [List.map_cons, List.map_nil, List.flatten_cons, List.flatten_nil, List.append_nil, List.take_take, Nat.min_self] at h h2
    rw [← h2, h]
  · have e : ∀ a, linesC c a = lastN c.n.toNat a := fun a => by unfold linesC; rw [if_neg (by omega), if_neg (by omega), if_neg (by omega), if_neg (by omega), if_pos k]; rfl
    rw [e, e, e]
    have h := last_flat c.n.toNat [X, D]
    have h2 := last_flat c.n.toNat [lastN c.n.toNat X, D]
    have hi : lastN c.n.toNat (lastN c.n.toNat X) = lastN c.n.toNat X := drop_drop_self _ _
    simp only [List.map_cons, List.map_nil, List.flatten_cons, List.flatten_nil, List.append_nil, hi] at h h2
    rw [← h2, h]
theorem again_right {c : Cmd} (hk : c.kind = 7 ∨ c.kind = 9 ∨ c.kind = 10) (A X : List Bs) : linesC c (A ++ linesC c X) = linesC c (A ++ X) := by
  rcases hk with k | k | k
  · have e : ∀ a, linesC c a = onceB a := fun a => by unfold linesC; rw [if_neg (by omega), if_pos k]
    rw [e, e, e, onceB_right]
  · have e : ∀ a, linesC c a = a.take c.n.toNat := fun a => by unfold linesC; rw [if_neg (by omega), if_neg (by omega), if_neg (by omega), if_pos k]
    rw [e, e, e]
    have h := take_flat c.n.toNat [A, X] c.n.toNat (Nat.le_refl _)
    have h2 := take_flat c.n.toNat [A, X.take c.n.toNat] c.n.toNat (Nat.le_refl _)
    simp only [List.map_cons, List.map_nil, List.flatten_cons, List.flatten_nil, List.append_nil, List.take_take, Nat.min_self] at h h2
    rw [← h2, h]
  · have e : ∀ a, linesC c a = lastN c.n.toNat a := fun a => by unfold linesC; rw [if_neg (by omega), if_neg (by omega), if_neg (by omega), if_neg (by omega), if_pos k]; rfl
    rw [e, e, e]
    have h := last_flat c.n.toNat [A, X]
    have h2 := last_flat c.n.toNat [A, lastN c.n.toNat X]
    have hi : lastN c.n.toNat (lastN c.n.toNat X) = lastN c.n.toNat X := drop_drop_self _ _
    simp only [List.map_cons, List.map_nil, List.flatten_cons, List.flatten_nil, List.append_nil, hi] at h h2
    rw [← h2, h]
def Sorted3 (a b d : Bs) : Prop := (linesOf a).Pairwise (· ≤ ·) ∧ (linesOf b).Pairwise (· ≤ ·) ∧ (linesOf d).Pairwise (· ≤ ·)
theorem nest_key {h : Int} {c : Cmd} (hc : checkJoin h c = 0) (h4 : h = 4 → c.kind = 7 ∨ c.kind = 9 ∨ c.kind = 10) {A B D : List Bs} (h2 : h = 2 → A.Pairwise (· ≤ ·) ∧ B.Pairwise (· ≤ ·) ∧ D.Pairwise (· ≤ ·))
    (h3 : h = 3 → numH A + numH B + numH D ≤ 4000) : joinB h c [joinB h c [A, B], D] = joinB h c [A, B, D] ∧ joinB h c [A, joinB h c [B, D]] = joinB h c [A, B, D] := by
  obtain ⟨-, hl, hu⟩ := checkJoin_four hc
  by_cases q2 : h = 2
  · obtain ⟨sa, sb, sd⟩ := h2 q2
    subst q2
    have e : ∀ p, joinB 2 c p = mergeB p := fun p => if_pos rfl
    have s2 : ∀ {X Y : List Bs}, X.Pairwise (· ≤ ·) → Y.Pairwise (· ≤ ·) → mergeB [X, Y] = sortB (X ++ Y) := fun hx hy => by
      rw [mergeB_eq (fun l hl => by simp at hl; rcases hl with rfl | rfl <;> assumption)]
      simp
    have s3 : mergeB [A, B, D] = sortB (A ++ (B ++ D)) := by
      rw [mergeB_eq (fun l hl => by simp at hl; rcases hl with rfl | rfl | rfl <;> assumption)]
      simp
    rw [e, e, e, e, e, s3, s2 sa sb, s2 sb sd, s2 (sortB_pairwise _) sd, s2 sa (sortB_pairwise _)]
    refine ⟨sortB_congr ?_, sortB_congr ?_⟩
    · have := (sortB_perm (A ++ B)).append_right D
      rw [List.append_assoc] at this
      exact this
    · exact (sortB_perm (B ++ D)).append_left A
  by_cases q3 : h = 3
  · have hs := h3 q3
    subst q3
    have ha := numH_bnd A
    have hb := numH_bnd B
    have hd := numH_bnd D
    have e : ∀ p : List (List Bs), joinB 3 c p = [Lib.itoa (sumN p p.length)] := fun p => by unfold joinB; rw [if_neg (by decide), if_pos rfl]
    rw [e, e, e, e, e]
    show [Lib.itoa (sumN [_, D] 2)] = [Lib.itoa (sumN [A, B, D] 3)] ∧ [Lib.itoa (sumN [A, _] 2)] = [Lib.itoa (sumN [A, B, D] 3)]
    have e1 : sumN [A, B] [A, B].length = numH A + numH B := sum2 A B
    have e2 : sumN [B, D] [B, D].length = numH B + numH D := sum2 B D
    rw [sum2, sum2, sum3, e1, e2, numH_itoa (by omega) (by omega), numH_itoa (by omega) (by omega)]
    refine ⟨rfl, ?_⟩
    rw [Int.add_assoc]
  by_cases q4 : h = 4
  · have hk := h4 q4
    subst q4
    have e : ∀ p : List (List Bs), joinB 4 c p = linesC c p.flatten := fun p => by unfold joinB; rw [if_neg (by decide), if_neg (by decide), if_pos rfl]
    rw [e, e, e, e, e]
    have f2 : ∀ X Y : List Bs, [X, Y].flatten = X ++ Y := fun X Y => by simp
    have f3 : [A, B, D].flatten = A ++ (B ++ D) := by simp
    rw [f2, f2, f2, f2, f3, again_left hk, again_right hk, List.append_assoc]
    exact ⟨rfl, rfl⟩
  · have e : ∀ p : List (List Bs), joinB h c p = p.flatten := fun p => by unfold joinB; rw [if_neg q2, if_neg q3, if_neg q4]
    rw [e, e, e, e, e]
    simp
theorem nest_law {h : Int} {c : Cmd} (hc : checkJoin h c = 0) (h4 : h = 4 → c.kind = 7 ∨ c.kind = 9 ∨ c.kind = 10) {a b d : Bs} (h2 : h = 2 → Sorted3 a b d)
    (h3 : h = 3 → numH (linesOf a) + numH (linesOf b) + numH (linesOf d) ≤ 4000) : jd h c [jd h c [a, b], d] = jd h c [a, b, d] ∧ jd h c [a, jd h c [b, d]] = jd h c [a, b, d] := by
  have e1 : jd h c [jd h c [a, b], d] = put (joinB h c [joinB h c [linesOf a, linesOf b], linesOf d]) := by
    show put (joinB h c [linesOf (jd h c [a, b]), linesOf d]) = _
    rw [lines_jd hc]; rfl
  have e2 : jd h c [a, jd h c [b, d]] = put (joinB h c [linesOf a, joinB h c [linesOf b, linesOf d]]) := by
    show put (joinB h c [linesOf a, linesOf (jd h c [b, d])]) = _
    rw [lines_jd hc]; rfl
  have e3 : jd h c [a, b, d] = put (joinB h c [linesOf a, linesOf b, linesOf d]) := rfl
  have key := nest_key hc h4 h2 h3
  rw [e1, e2, e3, key.1, key.2]
  exact ⟨rfl, rfl⟩
theorem merge_swap {c : Cmd} {a b : Bs} (ha : (linesOf a).Pairwise (· ≤ ·)) (hb : (linesOf b).Pairwise (· ≤ ·)) : jd 2 c [a, b] = jd 2 c [b, a] := by
  have e : ∀ p, joinB 2 c p = mergeB p := fun p => if_pos rfl
  show put (joinB 2 c [linesOf a, linesOf b]) = put (joinB 2 c [linesOf b, linesOf a])
  rw [e, e, mergeB_eq (fun l hl => by simp at hl; rcases hl with rfl | rfl <;> assumption), mergeB_eq (fun l hl => by simp at hl; rcases hl with rfl | rfl <;> assumption)]
  congr 1
  refine sortB_congr ?_
  have f2 : ∀ X Y : List Bs, [X, Y].flatten = X ++ Y := fun X Y => by simp
  rw [f2, f2]
  exact List.perm_append_comm
theorem sum_turn {c : Cmd} (a b d : Bs) : jd 3 c [d, a, b] = jd 3 c [a, b, d] := by
  have e : ∀ p : List (List Bs), joinB 3 c p = [Lib.itoa (sumN p p.length)] := fun p => by unfold joinB; rw [if_neg (by decide), if_pos rfl]
  show put (joinB 3 c [linesOf d, linesOf a, linesOf b]) = put (joinB 3 c [linesOf a, linesOf b, linesOf d])
  rw [e, e]
  show put [Lib.itoa (sumN [_, _, _] 3)] = put [Lib.itoa (sumN [_, _, _] 3)]
  rw [sum3, sum3]
  congr 3
  omega
/-- What a sum is read as. -/
theorem sum_back {c : Cmd} (a b d : Bs) : ∃ n : Nat, (n : Int) = numH (linesOf a) + numH (linesOf b) + numH (linesOf d) ∧ n ≤ 12000 ∧ jd 3 c [a, b, d] = Lib.itoa n ++ [10] := by
  have ha := numH_bnd (linesOf a)
  have hb := numH_bnd (linesOf b)
  have hd := numH_bnd (linesOf d)
  have e : ∀ p : List (List Bs), joinB 3 c p = [Lib.itoa (sumN p p.length)] := fun p => by unfold joinB; rw [if_neg (by decide), if_pos rfl]
  refine ⟨(numH (linesOf a) + numH (linesOf b) + numH (linesOf d)).toNat, by omega, by omega, ?_⟩
  show put (joinB 3 c [linesOf a, linesOf b, linesOf d]) = _
  rw [e]
  show put [Lib.itoa (sumN [_, _, _] 3)] = _
  rw [sum3, Int.toNat_of_nonneg (by omega)]
  rfl
end Gv
end PartP11
section PartP12
/-! What is left of parts, by how much of each went. -/
namespace Gv
open Go Gp
def curP (P : List (List Bs)) (a : List Nat) : List (List Bs) := List.zipWith (fun l k => l.drop k) P a
def bestN : Option (Nat × Bs) → Int
  | none => -1
  | some (j, _) => j
def bestS : Option (Nat × Bs) → Bs
  | none => []
  | some (_, s) => s
variable {P : List (List Bs)} {a : List Nat}
theorem curP_len (h : a.length = P.length) : (curP P a).length = P.length := by simp [curP, h]
theorem curP_0 (P : List (List Bs)) : curP P (List.replicate P.length 0) = P := by
  unfold curP
  induction P with
  | nil => rfl
  | cons x r ih => rw [List.length_cons, List.replicate_succ, List.zipWith_cons_cons, ih]; rfl
theorem curP_get (h : a.length = P.length) {i : Nat} (hi : i < P.length) : (curP P a).getD i [] = P[i].drop (a[i]'(by omega)) := by
  have hl : i < (curP P a).length := by rw [curP_len h]; exact hi
  rw [List.getD_eq_getElem?_getD, List.getElem?_eq_getElem hl]
  simp [curP]
theorem curP_set (h : a.length = P.length) {j : Nat} (hj : j < P.length) : curP P (a.set j (a[j]'(by omega) + 1)) = (curP P a).set j (((curP P a).getD j []).drop 1) := by
  rw [curP_get h hj, List.drop_drop]
  apply List.ext_getElem?
  intro i
  unfold curP
  rw [List.getElem?_zipWith]
  by_cases e : j = i
  · subst e
    rw [List.getElem?_set_self (by omega), List.getElem?_set_self (by simp; omega), List.getElem?_eq_getElem hj]
  · rw [List.getElem?_set_ne e, List.getElem?_set_ne e, List.getElem?_zipWith]
theorem best_next (q : List (List Bs)) (i : Nat) : best q (i + 1) = bestStep (best q i) i (q.getD i []) := rfl
end Gv
end PartP12
section PartP13
/-! Graphs, in plain words. -/
namespace Gv
open Go Gp
def outsN (n : Gp.Node) : Int := if n.kind = 2 then n.wide else if n.kind = 5 then 0 else 1
def errN (n : Gp.Node) : Int :=
  if n.kind = 1 ∨ n.kind = 5 then (if isWord n.file = true then 0 else 1)
  else if n.kind = 2 then (if n.wide < 1 ∨ 5 < n.wide then 3 else 0)
  else if n.kind = 3 then checkCmd n.c
  else checkJoin n.how n.c
def insN (n : Gp.Node) : Bool :=
  if n.kind = 1 ∨ n.kind = 5 then (decide ((n.ins.length : Int) = 1) == decide (n.kind = 5)) && decide ((n.ins.length : Int) < 2)
  else if n.kind = 4 then decide ((1 : Int) ≤ (n.ins.length : Int)) && decide ((n.ins.length : Int) ≤ 5)
  else decide ((n.ins.length : Int) = 1)
def wantN (n : Gp.Node) : Gp.Node :=
  ⟨n.kind, if n.kind = 1 ∨ n.kind = 5 then n.file else [], if n.kind = 3 ∨ n.kind = 4 then n.c else zCmd, if n.kind = 4 then n.how else 0, if n.kind = 2 then n.wide else 0, n.ins⟩
def checkN (n : Gp.Node) : Int :=
  if n.kind < 1 ∨ 5 < n.kind then 4 else if errN n ≠ 0 then errN n else if insN n = true ∧ n = wantN n then 0 else 4
abbrev Ents := List (List Int × Bool)
def portsGo (N : List Gp.Node) (i : Nat) : List Port → Ents → Int × Ents
  | [], u => (0, u)
  | p :: r, u => if p.node < 0 ∨ (i : Int) ≤ p.node ∨ p.out < 0 ∨ outsN (N.getD p.node.toNat ⟨0, [], zCmd, 0, 0, []⟩) ≤ p.out then (5, u) else if mget false u [p.node, p.out] = true then (6, u) else portsGo N i r (mput u [p.node, p.out] true)
def nodesGo (N : List Gp.Node) : Nat → List Gp.Node → Int → Ents → Int
  | i, [], o, u => if N.length = 0 ∨ (u.length : Int) ≠ o then 4 else 0
  | i, n :: r, o, u => if checkN n ≠ 0 then checkN n else if (portsGo N i n.ins u).1 ≠ 0 then (portsGo N i n.ins u).1 else if decide (n.kind = 5) ≠ decide ((i : Int) = (N.length : Int) - 1) then 4 else nodesGo N (i + 1) r (o + outsN n) (portsGo N i n.ins u).2
def checkG (N : List Gp.Node) : Int := if 60 < N.length then 2 else nodesGo N 0 N 0 []
theorem outsN_bnd {n : Gp.Node} (h : checkN n = 0) : 0 ≤ outsN n ∧ outsN n ≤ 5 := by
  unfold checkN at h
  split at h
  · cases h
  · split at h
    · rename_i h1 h2
      exact absurd h h2
    · rename_i h1 h2
      unfold outsN
      split
      · rename_i h3
        simp only [errN, h3] at h2
        simp at h2
        omega
      · split <;> omega
theorem nodesGo_at {N : List Gp.Node} {i : Nat} (hi : i < N.length) (o : Int) (u : Ents) : nodesGo N i (N.drop i) o u = if checkN N[i] ≠ 0 then checkN N[i] else if (portsGo N i N[i].ins u).1 ≠ 0 then (portsGo N i N[i].ins u).1 else if decide (N[i].kind = 5) ≠ decide ((i : Int) = (N.length : Int) - 1) then 4 else nodesGo N (i + 1) (N.drop (i + 1)) (o + outsN N[i]) (portsGo N i N[i].ins u).2 := by
  rw [List.drop_eq_getElem_cons hi, nodesGo]
theorem portsGo_at {N : List Gp.Node} {i : Nat} {l : List Port} {j : Nat} (hj : j < l.length) (u : Ents) : portsGo N i (l.drop j) u = if l[j].node < 0 ∨ (i : Int) ≤ l[j].node ∨ l[j].out < 0 ∨ outsN (N.getD l[j].node.toNat ⟨0, [], zCmd, 0, 0, []⟩) ≤ l[j].out then (5, u) else if mget false u [l[j].node, l[j].out] = true then (6, u) else portsGo N i (l.drop (j + 1)) (mput u [l[j].node, l[j].out] true) := by
  rw [List.drop_eq_getElem_cons hj, portsGo]
end Gv
end PartP13
section PartP14
/-! What a graph makes, in plain words. -/
namespace Gv
open Go Gp
theorem linesC_put9 {c : Cmd} (h : checkCmd c = 0) (l : List Bs) (hl : l.length ≤ 900000) : (put (linesC c l)).length ≤ (put l).length + 30 := by
  unfold linesC
  split
  · rw [put_perm (sortB_perm l)]; omega
  split
  · have := put_sub (onceB_sublist l); omega
  split
  · have := itoa_len l.length ⟨by omega, by omega⟩
    simp only [put, List.length_append, List.length_cons, List.length_nil]
    omega
  split
  · have := put_sub (List.take_sublist c.n.toNat l); omega
  split
  · have := put_sub (List.drop_sublist (l.length - c.n.toNat) l); omega
  · have := put_filterMap h l; omega
theorem joinB_put9 {h : Int} {c : Cmd} (hc : h = 4 → checkCmd c = 0) (p : List (List Bs)) (hp : p.length ≤ 1000) (hl : p.flatten.length ≤ 900000) : (put (joinB h c p)).length ≤ (put p.flatten).length + 30 := by
  unfold joinB
  split
  · rw [put_perm (mergeB_perm p)]; omega
  · split
    · have hb := sumN_bnd p p.length
      have := itoa_len (sumN p p.length) (by omega)
      simp only [put, List.length_append, List.length_cons, List.length_nil]
      omega
    · split
      · rename_i h4
        exact linesC_put9 (hc h4) _ hl
      · omega
def makeN (n : Gp.Node) (f : List FileS) (ins : List Bs) : List Bs :=
  if n.kind = 1 then [put (linesOf (fileAt f n.file))]
  else if n.kind = 2 then splitLines (linesOf (ins.getD 0 [])) n.wide.toNat
  else if n.kind = 3 then [put (linesC n.c (linesOf (ins.getD 0 [])))]
  else if n.kind = 4 then [put (joinB n.how n.c (ins.map linesOf))]
  else []
theorem checkN_fine {n : Gp.Node} (h : checkN n = 0) : 1 ≤ n.kind ∧ n.kind ≤ 5 ∧ errN n = 0 ∧ insN n = true := by
  unfold checkN at h
  split at h
  · cases h
  · split at h
    · rename_i h1 h2
      exact absurd h h2
    · rename_i h1 h2
      split at h
      · rename_i h3
        exact ⟨by omega, by omega, Decidable.not_not.1 h2, h3.1⟩
      · cases h
theorem checkN_shape {n : Gp.Node} (h : checkN n = 0) : (n.kind = 1 ∧ n.ins.length = 0) ∨ (n.kind = 2 ∧ n.ins.length = 1 ∧ 1 ≤ n.wide ∧ n.wide ≤ 5) ∨ (n.kind = 3 ∧ n.ins.length = 1 ∧ checkCmd n.c = 0) ∨ (n.kind = 4 ∧ 1 ≤ n.ins.length ∧ n.ins.length ≤ 5 ∧ checkJoin n.how n.c = 0) ∨ (n.kind = 5 ∧ n.ins.length = 1) := by
  obtain ⟨h1, h2, h3, h4⟩ := checkN_fine h
  have hk : n.kind = 1 ∨ n.kind = 2 ∨ n.kind = 3 ∨ n.kind = 4 ∨ n.kind = 5 := by omega
  rcases hk with k | k | k | k | k
  · refine .inl ⟨k, ?_⟩
    simp [insN, k] at h4
    omega
  · refine .inr (.inl ⟨k, ?_⟩)
    simp [insN, k] at h4
    simp [errN, k] at h3
    omega
  · refine .inr (.inr (.inl ⟨k, ?_, ?_⟩))
    · simp [insN, k] at h4
      omega
    · simpa [errN, k] using h3
  · refine .inr (.inr (.inr (.inl ⟨k, ?_, ?_, ?_⟩)))
    · simp [insN, k] at h4
      omega
    · simp [insN, k] at h4
      omega
    · simpa [errN, k] using h3
  · refine .inr (.inr (.inr (.inr ⟨k, ?_⟩)))
    simp [insN, k] at h4
    omega
theorem parts_take (l : List Bs) (n : Nat) (hn : 0 < n) : ∀ k, k ≤ n → (((List.range k).map fun k => put (part l n k)).flatten).length = (put (l.take (k * l.length / n))).length
  | 0, _ => by simp [put]
  | k + 1, hk => by
    rw [List.range_succ, List.map_append, List.flatten_append, List.length_append, parts_take l n hn k (by omega), ← part_cat l n k hn, put_append, List.length_append]
    simp
theorem split_len2 (l : List Bs) (n : Nat) (hn : 0 < n) : (splitLines l n).flatten.length = (put l).length := by
  unfold splitLines
  rw [parts_take l n hn n (Nat.le_refl _), Nat.mul_div_cancel_left _ hn, List.take_length]
theorem getD_flat (l : List Bs) (i : Nat) : (l.getD i []).length ≤ l.flatten.length := by
  rw [List.getD_eq_getElem?_getD]
  cases h : l[i]? with
  | none => simp
  | some b => exact el_flat (List.mem_of_getElem? h)
theorem makeN_len {n : Gp.Node} {f : List FileS} {ins : List Bs} (h : checkN n = 0) (hi : n.ins.length = ins.length) (hf : ∀ x ∈ f, x.b.length ≤ 4000) (hl : ins.flatten.length ≤ 500000) : (makeN n f ins).flatten.length ≤ ins.flatten.length + 4040 := by
  have h0 := getD_flat ins 0
  have h1 := put_lines (ins.getD 0 [])
  have h2 := linesOf_len (ins.getD 0 [])
  unfold makeN
  rcases checkN_shape h with ⟨k, e⟩ | ⟨k, e, w1, w2⟩ | ⟨k, e, hc⟩ | ⟨k, e1, e2, hc⟩ | ⟨k, e⟩
  · rw [if_pos k]
    have h3 := fileAt_len hf n.file
    have h4 := put_lines (fileAt f n.file)
    simp only [List.flatten_cons, List.flatten_nil, List.append_nil]
    omega
  · rw [if_neg (by omega), if_pos k, split_len2 _ _ (by omega)]
    omega
  · rw [if_neg (by omega), if_neg (by omega), if_pos k]
    have h3 := linesC_put9 hc (linesOf (ins.getD 0 [])) (by omega)
    simp only [List.flatten_cons, List.flatten_nil, List.append_nil]
    omega
  · rw [if_neg (by omega), if_neg (by omega), if_neg (by omega), if_pos k]
    have h3 := put_flat ins
    have h4 := put_len (l := (ins.map linesOf).flatten) (n := 600000) (by omega)
    have h5 := joinB_put9 (checkJoin_four hc).1 (ins.map linesOf) (by rw [List.length_map]; omega) (by omega)
    simp only [List.flatten_cons, List.flatten_nil, List.append_nil]
    omega
  · rw [if_neg (by omega), if_neg (by omega), if_neg (by omega), if_neg (by omega)]
    simp
theorem makeN_outs {n : Gp.Node} {f : List FileS} {ins : List Bs} (h : checkN n = 0) : ((makeN n f ins).length : Int) = outsN n := by
  unfold makeN outsN
  rcases checkN_shape h with ⟨k, e⟩ | ⟨k, e, w1, w2⟩ | ⟨k, e, hc⟩ | ⟨k, e1, e2, hc⟩ | ⟨k, e⟩
  · rw [if_pos k, if_neg (by omega), if_neg (by omega)]; rfl
  · rw [if_neg (by omega), if_pos k, if_pos k]
    simp [splitLines]
    omega
  · rw [if_neg (by omega), if_neg (by omega), if_pos k, if_neg (by omega), if_neg (by omega)]; rfl
  · rw [if_neg (by omega), if_neg (by omega), if_neg (by omega), if_pos k, if_neg (by omega), if_neg (by omega)]; rfl
  · rw [if_neg (by omega), if_neg (by omega), if_neg (by omega), if_neg (by omega), if_neg (by omega), if_pos k]; rfl
/-! ### Eval -/
def portAt (out : List (List Bs)) (p : Port) : Bs := (out.getD p.node.toNat []).getD p.out.toNat []
def insOf (out : List (List Bs)) (l : List Port) : List Bs := l.map (portAt out)
def evalGo (f : List FileS) : List Gp.Node → List (List Bs) → Bs × Int
  | [], _ => ([], 4)
  | n :: r, out => if n.kind = 5 then ((insOf out n.ins).getD 0 [], 0) else evalGo f r (out ++ [makeN n f (insOf out n.ins)])
def evalG (N : List Gp.Node) (f : List FileS) : Bs × Int := if checkG N ≠ 0 then ([], checkG N) else if checkFiles f ≠ 0 then ([], checkFiles f) else evalGo f N []
def tot (G : List (List Bs)) : Nat := G.flatten.flatten.length
theorem mget_put {α : Type} (z : α) : ∀ (l : List (List Int × α)) (k : List Int) (a : α) (k' : List Int), mget z (mput l k a) k' = if k = k' then a else mget z l k'
  | [], k, a, k' => by simp [mput, mget]
  | (j, b) :: r, k, a, k' => by
    unfold mput
    by_cases h : j = k
    · subst h
      simp only [if_true, mget]
      split <;> rfl
    · simp only [h, if_false, mget, mget_put z r k a k']
      by_cases h1 : j = k'
      · subst h1
        have h2 : ¬ k = j := fun e => h e.symm
        simp [h2]
      · simp [h1]
theorem set_nil (l : List Bs) {o : Nat} (h : o < l.length) : (l.set o []).flatten.length + (l.getD o []).length = l.flatten.length := by
  have e : l = l.take o ++ l[o] :: l.drop (o + 1) := by rw [List.getElem_cons_drop, List.take_append_drop]
  have hg : l.getD o [] = l[o] := by rw [List.getD_eq_getElem?_getD, List.getElem?_eq_getElem h]; rfl
  have h2 := congrArg (fun x => x.flatten.length) e
  simp only [List.flatten_append, List.flatten_cons, List.length_append] at h2
  rw [List.set_eq_take_append_cons_drop, if_pos h, hg]
  simp only [List.flatten_append, List.flatten_cons, List.length_append, List.length_nil]
  omega
theorem tot_set (G : List (List Bs)) {k o : Nat} (h : k < G.length) (ho : o < (G.getD k []).length) : tot (G.set k ((G.getD k []).set o [])) + ((G.getD k []).getD o []).length = tot G := by
  have hg : G.getD k [] = G[k] := by rw [List.getD_eq_getElem?_getD, List.getElem?_eq_getElem h]; rfl
  have e : G = G.take k ++ G[k] :: G.drop (k + 1) := by rw [List.getElem_cons_drop, List.take_append_drop]
  have h2 := congrArg (fun x => x.flatten.flatten.length) e
  simp only [List.flatten_append, List.flatten_cons, List.length_append] at h2
  rw [hg] at ho ⊢
  have h3 := set_nil G[k] ho
  unfold tot
  rw [List.set_eq_take_append_cons_drop, if_pos h]
  simp only [List.flatten_append, List.flatten_cons, List.length_append]
  omega
/-- What is not used yet, as it came. -/
structure Left (N : List Gp.Node) (out : List (List Bs)) (u : Ents) (G : List (List Bs)) : Prop where
  len : G.length = out.length
  outs : ∀ k (h : k < out.length), ∃ h2 : k < N.length, (out[k].length : Int) = outsN N[k]
  each : ∀ k, (G.getD k []).length = (out.getD k []).length
  same : ∀ (k o : Nat), mget false u [(k : Int), (o : Int)] = false → (G.getD k []).getD o [] = (out.getD k []).getD o []
theorem ports_left {N : List Gp.Node} {out : List (List Bs)} : ∀ {l : List Port} {u u' : Ents} {G : List (List Bs)}, Left N out u G → portsGo N out.length l u = (0, u') → ∃ G', Left N out u' G' ∧ tot G' + (insOf out l).flatten.length ≤ tot G ∧ ∀ p ∈ l, ∃ k o : Nat, p.node = k ∧ p.out = o ∧ ∃ h : k < out.length, o < out[k].length
  | [], u, u', G, hL, h => by
    simp only [portsGo, Prod.mk.injEq, true_and] at h
    subst h
    exact ⟨G, hL, by simp [insOf], fun p hp => by cases hp⟩
  | p :: r, u, u', G, hL, h => by
    rw [portsGo] at h
    split at h
    · cases h
    · rename_i h1
      split at h
      · cases h
      · rename_i h2
        obtain ⟨k, hk⟩ : ∃ k : Nat, p.node = k := ⟨p.node.toNat, by omega⟩
        obtain ⟨o, ho⟩ : ∃ o : Nat, p.out = o := ⟨p.out.toNat, by omega⟩
        have hko : k < out.length := by omega
        obtain ⟨hkN, hou⟩ := hL.outs k hko
        have hgN : N.getD p.node.toNat ⟨0, [], zCmd, 0, 0, []⟩ = N[k] := by
          rw [hk, Int.toNat_natCast, List.getD_eq_getElem?_getD, List.getElem?_eq_getElem hkN]; rfl
        rw [hgN] at h1
        have hgo : out.getD k [] = out[k] := by rw [List.getD_eq_getElem?_getD, List.getElem?_eq_getElem hko]; rfl
        have hol : o < out[k].length := by omega
        have hoG : o < (G.getD k []).length := by rw [hL.each, hgo]; exact hol
        have hkG : k < G.length := by rw [hL.len]; exact hko
        have hmf : mget false u [(k : Int), (o : Int)] = false := by
          rw [hk, ho] at h2
          simpa using h2
        have has := hL.same k o hmf
        have ht := tot_set G hkG hoG
        rw [hk, ho] at h
        have hL2 : Left N out (mput u [(k : Int), (o : Int)] true) (G.set k ((G.getD k []).set o [])) := by
          refine ⟨by rw [List.length_set]; exact hL.len, hL.outs, fun k' => ?_, fun k' o' hm => ?_⟩
          · rw [← hL.each k', List.getD_eq_getElem?_getD]
            by_cases e : k = k'
            · subst e
              rw [List.getElem?_set_self hkG]
              simp
            · rw [List.getElem?_set_ne e, List.getD_eq_getElem?_getD]
          · rw [mget_put] at hm
            split at hm
            · cases hm
            · rename_i hne
              have hn2 : ¬ (k = k' ∧ o = o') := fun e => hne (by rw [e.1, e.2])
              rw [← hL.same k' o' hm, List.getD_eq_getElem?_getD (l := G.set _ _)]
              by_cases e : k = k'
              · subst e
                have hoo : o ≠ o' := fun e => hn2 ⟨rfl, e⟩
                rw [List.getElem?_set_self hkG]
                show ((G.getD k []).set o []).getD o' [] = (G.getD k []).getD o' []
                rw [List.getD_eq_getElem?_getD, List.getElem?_set_ne hoo, ← List.getD_eq_getElem?_getD]
              · rw [List.getElem?_set_ne e, ← List.getD_eq_getElem?_getD]
        obtain ⟨G', hL3, hle, hall⟩ := ports_left hL2 h
        refine ⟨G', hL3, ?_, fun q hq => ?_⟩
        · have e : insOf out (p :: r) = ((out.getD k []).getD o []) :: insOf out r := by
            simp [insOf, portAt, hk, ho]
          rw [e, List.flatten_cons, List.length_append, ← has]
          omega
        · rcases List.mem_cons.1 hq with rfl | hq
          · exact ⟨k, o, hk, ho, hko, hol⟩
          · exact hall q hq
theorem getD_app {α : Type} (l r : List α) (d : α) {k : Nat} (h : k < l.length) : (l ++ r).getD k d = l.getD k d := by
  rw [List.getD_eq_getElem?_getD, List.getElem?_append_left h, ← List.getD_eq_getElem?_getD]
theorem getD_app2 {α : Type} (l r : List α) (d : α) {k : Nat} (h : l.length ≤ k) : (l ++ r).getD k d = r.getD (k - l.length) d := by
  rw [List.getD_eq_getElem?_getD, List.getElem?_append_right h, ← List.getD_eq_getElem?_getD]
theorem left_snoc {N : List Gp.Node} {out : List (List Bs)} {u : Ents} {G : List (List Bs)} (hL : Left N out u G) {x : List Bs} (hN : out.length < N.length) (hx : (x.length : Int) = outsN N[out.length]) : Left N (out ++ [x]) u (G ++ [x]) ∧ tot (G ++ [x]) = tot G + x.flatten.length := by
  refine ⟨⟨by rw [List.length_append, List.length_append, hL.len], fun k hk => ?_, fun k => ?_, fun k o hm => ?_⟩, by simp [tot]⟩
  · rcases Nat.lt_or_ge k out.length with h | h
    · rw [List.getElem_append_left h]
      exact hL.outs k h
    · have e : k = out.length := by
        rw [List.length_append, List.length_singleton] at hk
        omega
      subst e
      refine ⟨hN, ?_⟩
      rw [List.getElem_append_right (Nat.le_refl _)]
      simpa using hx
  · rcases Nat.lt_or_ge k out.length with h | h
    · have h2 : k < G.length := by rw [hL.len]; exact h
      rw [getD_app _ _ _ h2, getD_app _ _ _ h, hL.each]
    · have h2 : G.length ≤ k := by rw [hL.len]; exact h
      rw [getD_app2 _ _ _ h2, getD_app2 _ _ _ h, hL.len]
  · rcases Nat.lt_or_ge k out.length with h | h
    · have h2 : k < G.length := by rw [hL.len]; exact h
      rw [getD_app _ _ _ h2, getD_app _ _ _ h, hL.same k o hm]
    · have h2 : G.length ≤ k := by rw [hL.len]; exact h
      rw [getD_app2 _ _ _ h2, getD_app2 _ _ _ h, hL.len]
/-- Up to node `i`. -/
def Upto (N : List Gp.Node) (out : List (List Bs)) : Prop := ∃ o u G, nodesGo N out.length (N.drop out.length) o u = 0 ∧ Left N out u G ∧ tot G ≤ 4100 * out.length
theorem upto_0 {N : List Gp.Node} (h : checkG N = 0) : Upto N [] ∧ N.length ≤ 60 := by
  unfold checkG at h
  split at h
  · cases h
  · exact ⟨⟨0, [], [], h, ⟨rfl, fun k hk => absurd hk (by simp), fun k => rfl, fun k o _ => rfl⟩, by simp [tot]⟩, by omega⟩
/-- What a node takes in, up to node `i`. -/
theorem upto_node {N : List Gp.Node} {out : List (List Bs)} (hU : Upto N out) (h60 : N.length ≤ 60) (hi : out.length < N.length) : checkN N[out.length] = 0 ∧ (insOf out N[out.length].ins).flatten.length ≤ 4100 * out.length ∧ (∀ p ∈ N[out.length].ins, ∃ k o : Nat, p.node = k ∧ p.out = o ∧ ∃ h : k < out.length, o < out[k].length) ∧ (N[out.length].kind = 5 ↔ out.length + 1 = N.length) ∧ ∀ f : List FileS, (∀ x ∈ f, x.b.length ≤ 4000) → Upto N (out ++ [makeN N[out.length] f (insOf out N[out.length].ins)]) := by
  obtain ⟨o, u, G, hgo, hL, ht⟩ := hU
  rw [nodesGo_at hi] at hgo
  split at hgo
  · rename_i h1; exact absurd hgo h1
  · rename_i h1
    have hcn : checkN N[out.length] = 0 := Decidable.not_not.1 h1
    split at hgo
    · rename_i h2; exact absurd hgo h2
    · rename_i h2
      have hp : portsGo N out.length N[out.length].ins u = (0, (portsGo N out.length N[out.length].ins u).2) := by
        rw [← Decidable.not_not.1 h2]
      split at hgo
      · cases hgo
      · rename_i h3
        have h3 := Decidable.not_not.1 h3
        obtain ⟨G', hL', hle, hall⟩ := ports_left hL hp
        have hfl : (insOf out N[out.length].ins).flatten.length ≤ 4100 * out.length := by omega
        refine ⟨hcn, hfl, hall, ?_, fun f hf => ?_⟩
        · have h4 : (N[out.length].kind = 5) ↔ ((out.length : Int) = (N.length : Int) - 1) := by simpa using h3
          rw [h4]; omega
        · obtain ⟨hs1, hs2⟩ := left_snoc hL' hi (makeN_outs (f := f) (ins := insOf out N[out.length].ins) hcn)
          have hm := makeN_len (f := f) (ins := insOf out N[out.length].ins) hcn (by simp [insOf]) hf (by omega)
          refine ⟨o + outsN N[out.length], _, _, ?_, hs1, ?_⟩
          · rw [List.length_append, List.length_singleton]
            exact hgo
          · rw [hs2, List.length_append, List.length_singleton]
            omega
end Gv
end PartP14
section PartP15
/-! What comes into a sink hangs on the files of its sources alone. -/
namespace Gv
open Go Gp
theorem lt_tr {a b c : Bs} (h1 : a < b) (h2 : b < c) : a < c := List.lt_trans h1 h2
theorem filesGo_iff : ∀ {l : List FileS} {q : Option Bs}, filesGo q l = 0 ↔ (∀ f ∈ l, isWord f.name = true ∧ f.b.length ≤ 4000) ∧ (l.Pairwise fun a b => a.name < b.name) ∧ ∀ s, q = some s → ∀ f ∈ l, s < f.name
  | [], q => by simp [filesGo]
  | g :: r, q => by
    have ih := @filesGo_iff r (some g.name)
    rw [filesGo]
    constructor
    · intro h
      split at h
      · cases h
      · rename_i h1
        split at h
        · cases h
        · rename_i h2
          split at h
          · cases h
          · rename_i h3
            obtain ⟨i1, i2, i3⟩ := ih.1 h
            have i3 := i3 _ rfl
            have hq : ∀ s, q = some s → s < g.name := fun s hs => by
              subst hs
              simp only [notRise, less_eq] at h3
              simpa using h3
            refine ⟨fun f hf => ?_, List.pairwise_cons.2 ⟨i3, i2⟩, fun s hs f hf => ?_⟩
            · rcases List.mem_cons.1 hf with rfl | hf
              · exact ⟨by simpa using h1, by omega⟩
              · exact i1 f hf
            · rcases List.mem_cons.1 hf with rfl | hf
              · exact hq s hs
              · exact lt_tr (hq s hs) (i3 f hf)
    · rintro ⟨j1, j2, j3⟩
      obtain ⟨k1, k2⟩ := j1 g (List.mem_cons_self ..)
      rw [List.pairwise_cons] at j2
      rw [if_neg (by simp [k1]), if_neg (by omega), if_neg ?_]
      · exact ih.2 ⟨fun f hf => j1 f (List.mem_cons_of_mem _ hf), j2.2, fun s hs f hf => by cases hs; exact j2.1 f hf⟩
      · cases q with
        | none => simp [notRise]
        | some s =>
          have := j3 s rfl g (List.mem_cons_self ..)
          simp [notRise, less_eq, this]
def isNamed (n : Bs) (f : FileS) : Bool := decide (f.name = n)
theorem fileAt_find : ∀ {l : List FileS} (n : Bs), (l.Pairwise fun a b => a.name < b.name) → fileAt l n = match l.find? (isNamed n) with | some f => f.b | none => []
  | [], n, _ => rfl
  | g :: r, n, h => by
    rw [List.pairwise_cons] at h
    have ih := fileAt_find n h.2
    rw [List.find?_cons]
    by_cases h1 : g.name < n
    · have hne : isNamed n g = false := by
        simp only [isNamed, decide_eq_false_iff_not]
        intro e
        rw [e] at h1
        exact List.lt_irrefl _ h1
      have hnl : notLess n g = false := by simp [notLess, less_eq, h1]
      rw [hne]
      simp only
      rw [← ih]
      unfold fileAt placeI
      rw [List.findIdx_cons, hnl]
      simp
    · have hnl : notLess n g = true := by simp [notLess, less_eq, h1]
      have hp : fileAt (g :: r) n = if g.name = n then g.b else [] := by
        unfold fileAt placeI
        rw [List.findIdx_cons, hnl]
        simp
      rw [hp]
      by_cases e : g.name = n
      · rw [if_pos e]
        have : isNamed n g = true := by simp [isNamed, e]
        rw [this]
      · rw [if_neg e]
        have : isNamed n g = false := by simp [isNamed, e]
        rw [this]
        simp only
        have hn : r.find? (isNamed n) = none := by
          rw [List.find?_eq_none]
          intro x hx hxn
          have hxn : x.name = n := by simpa [isNamed] using hxn
          have := h.1 x hx
          rw [hxn] at this
          exact h1 this
        rw [hn]
def keepF (N : List Gp.Node) (f : FileS) : Bool := N.any fun n => decide (n.kind = 1) && decide (n.file = f.name)
def wholeF (f : FileS) : FileS := if (whole f.b).length ≤ 4000 then ⟨f.name, whole f.b⟩ else f
def few (N : List Gp.Node) (l : List FileS) : List FileS := (l.filter (keepF N)).map wholeF
theorem wholeF_name (f : FileS) : (wholeF f).name = f.name := by unfold wholeF; split <;> rfl
theorem wholeF_len {f : FileS} (h : f.b.length ≤ 4000) : (wholeF f).b.length ≤ 4000 := by
  unfold wholeF
  split
  · assumption
  · exact h
theorem wholeF_lines (f : FileS) : linesOf (wholeF f).b = linesOf f.b := by
  unfold wholeF
  split
  · exact linesOf_put (linesOf_no10 f.b)
  · rfl
theorem few_ok {N : List Gp.Node} {l : List FileS} (h : checkFiles l = 0) : checkFiles (few N l) = 0 := by
  unfold checkFiles at h ⊢
  split at h
  · cases h
  · rename_i h1
    obtain ⟨j1, j2, j3⟩ := filesGo_iff.1 h
    have hl : (few N l).length ≤ l.length := by
      unfold few
      rw [List.length_map]
      exact List.length_filter_le _ _
    rw [if_neg (by omega)]
    refine filesGo_iff.2 ⟨fun f hf => ?_, ?_, fun s hs => by cases hs⟩
    · obtain ⟨g, hg, rfl⟩ := List.mem_map.1 hf
      have := j1 g (List.mem_filter.1 hg).1
      exact ⟨by rw [wholeF_name]; exact this.1, wholeF_len this.2⟩
    · unfold few
      rw [List.pairwise_map]
      refine (j2.filter _).imp fun h => ?_
      rw [wholeF_name, wholeF_name]
      exact h
theorem find_filter {p q : FileS → Bool} : ∀ (l : List FileS), (∀ f ∈ l, p f = true → q f = true) → (l.filter q).find? p = l.find? p
  | [], _ => rfl
  | g :: r, h => by
    have ih := find_filter r fun f hf => h f (List.mem_cons_of_mem _ hf)
    rw [List.filter_cons, List.find?_cons]
    cases hp : p g with
    | true =>
      rw [if_pos (h g (List.mem_cons_self ..) hp), List.find?_cons, hp]
    | false =>
      split
      · rw [List.find?_cons, hp]
        exact ih
      · exact ih
theorem few_lines {N : List Gp.Node} {l : List FileS} (h : checkFiles l = 0) {n : Gp.Node} (hn : n ∈ N) (hk : n.kind = 1) : linesOf (fileAt (few N l) n.file) = linesOf (fileAt l n.file) := by
  have pw : ∀ {x : List FileS}, checkFiles x = 0 → x.Pairwise fun a b => a.name < b.name := fun {x} hx => by
    unfold checkFiles at hx
    split at hx
    · cases hx
    · exact (filesGo_iff.1 hx).2.1
  rw [fileAt_find _ (pw (few_ok h)), fileAt_find _ (pw h)]
  unfold few
  rw [List.find?_map, show (isNamed n.file ∘ wholeF) = isNamed n.file from by funext f; simp [isNamed, wholeF_name], find_filter l fun f hf hp => ?_]
  · cases l.find? (isNamed n.file) with
    | none => rfl
    | some f => exact wholeF_lines f
  · have hp : f.name = n.file := by simpa [isNamed] using hp
    unfold keepF
    rw [List.any_eq_true]
    exact ⟨n, hn, by simp [hk, hp]⟩
theorem evalGo_few {N : List Gp.Node} {l : List FileS} (h : checkFiles l = 0) : ∀ (M : List Gp.Node) (out : List (List Bs)), (∀ n ∈ M, n ∈ N) → evalGo (few N l) M out = evalGo l M out
  | [], out, _ => rfl
  | n :: r, out, hm => by
    rw [evalGo, evalGo]
    split
    · rfl
    · have e : makeN n (few N l) (insOf out n.ins) = makeN n l (insOf out n.ins) := by
        unfold makeN
        split
        · rename_i k1
          rw [few_lines h (hm n (List.mem_cons_self ..)) k1]
        · rfl
      rw [e]
      exact evalGo_few h r _ fun x hx => hm x (List.mem_cons_of_mem _ hx)
theorem few_law {N : List Gp.Node} {l : List FileS} (h : (evalG N l).2 = 0) : evalG N (few N l) = evalG N l := by
  unfold evalG at h ⊢
  split at h
  · rename_i h1; exact absurd h h1
  · rename_i h1
    rw [if_neg h1, if_neg h1]
    split at h
    · rename_i h2; exact absurd h h2
    · rename_i h2
      rw [if_neg h2, if_neg (by rw [few_ok (Decidable.not_not.1 h2)]; exact fun e => e rfl), evalGo_few (Decidable.not_not.1 h2) N [] fun n hn => hn]
end Gv
end PartP15
section PartP16
/-! A plan is a graph. -/
namespace Gv
open Go Gp
def useAll : List Port → Ents → Ents
  | [], u => u
  | p :: r, u => useAll r (mput u [p.node, p.out] true)
theorem mput_new {k : List Int} : ∀ {u : Ents}, (∀ e ∈ u, e.2 = true) → mget false u k = false → mput u k true = u ++ [(k, true)]
  | [], _, _ => rfl
  | (j, b) :: r, h, hm => by
    have hb : b = true := h (j, b) (List.mem_cons_self ..)
    unfold mget at hm
    unfold mput
    split
    · rename_i e
      rw [if_pos e, hb] at hm
      cases hm
    · rename_i e
      rw [if_neg e] at hm
      rw [mput_new (fun x hx => h x (List.mem_cons_of_mem _ hx)) hm]
      rfl
/-- A port of one of these nodes. -/
def Of (M : List Gp.Node) (p : Port) : Prop := ∃ k o : Nat, p = ⟨k, o⟩ ∧ ∃ h : k < M.length, (o : Int) < outsN M[k]
theorem useAll_ok {M : List Gp.Node} : ∀ {l : List Port} {u : Ents}, (∀ p ∈ l, Of M p ∧ mget false u [p.node, p.out] = false) → l.Nodup → (∀ e ∈ u, e.2 = true ∧ ∃ a b : Int, e.1 = [a, b] ∧ a < M.length) →
    (∀ N, M <+: N → portsGo N M.length l u = (0, useAll l u)) ∧ (useAll l u).length = u.length + l.length ∧ (∀ e ∈ useAll l u, e.2 = true ∧ ∃ a b : Int, e.1 = [a, b] ∧ a < M.length) ∧ ∀ a b : Int, (⟨a, b⟩ : Port) ∉ l → mget false (useAll l u) [a, b] = mget false u [a, b]
  | [], u, _, _, hu => ⟨fun N _ => rfl, rfl, hu, fun a b _ => rfl⟩
  | p :: r, u, hp, hn, hu => by
    rw [List.nodup_cons] at hn
    obtain ⟨⟨k, o, rfl, hk, ho⟩, hm⟩ := hp p (List.mem_cons_self ..)
    have hput := mput_new (fun e he => (hu e he).1) hm
    have hu2 : ∀ e ∈ mput u [(k : Int), (o : Int)] true, e.2 = true ∧ ∃ a b : Int, e.1 = [a, b] ∧ a < M.length := fun e he => by
      rw [hput] at he
      rcases List.mem_append.1 he with he | he
      · exact hu e he
      · rw [List.mem_singleton] at he
        subst he
        exact ⟨rfl, k, o, rfl, by omega⟩
    have hp2 : ∀ q ∈ r, Of M q ∧ mget false (mput u [(k : Int), (o : Int)] true) [q.node, q.out] = false := fun q hq => by
      obtain ⟨h1, h2⟩ := hp q (List.mem_cons_of_mem _ hq)
      refine ⟨h1, ?_⟩
      rw [mget_put, if_neg ?_]
      · exact h2
      · intro e
        apply hn.1
        have e1 : (k : Int) = q.node := by simpa using (List.cons.inj e).1
        have e2 : (o : Int) = q.out := by simpa using (List.cons.inj (List.cons.inj e).2).1
        rw [e1, e2]
        exact hq
    obtain ⟨i1, i2, i3, i4⟩ := useAll_ok hp2 hn.2 hu2
    refine ⟨fun N hN => ?_, ?_, i3, fun a b hab => ?_⟩
    · have hg : N.getD k ⟨0, [], zCmd, 0, 0, []⟩ = M[k] := by
        obtain ⟨t, rfl⟩ := hN
        rw [getD_app _ _ _ hk, List.getD_eq_getElem?_getD, List.getElem?_eq_getElem hk]; rfl
      rw [portsGo, if_neg ?_, if_neg (by simp [hm]), i1 N hN]
      · rfl
      · show ¬ ((k : Int) < 0 ∨ (M.length : Int) ≤ (k : Int) ∨ (o : Int) < 0 ∨ outsN (N.getD (k : Int).toNat _) ≤ (o : Int))
        rw [Int.toNat_natCast, hg]
        omega
    · show (useAll r _).length = _
      rw [i2, hput, List.length_append]
      simp only [List.length_cons, List.length_nil]
      omega
    · show mget false (useAll r _) [a, b] = _
      rw [i4 a b fun h => hab (List.mem_cons_of_mem _ h), mget_put, if_neg ?_]
      intro e
      apply hab
      have e1 : (k : Int) = a := by simpa using (List.cons.inj e).1
      have e2 : (o : Int) = b := by simpa using (List.cons.inj (List.cons.inj e).2).1
      rw [← e1, ← e2]
      exact List.mem_cons_self ..
/-- Nodes so far, and the ports not taken yet. -/
structure Good (M : List Gp.Node) (cur : List Port) : Prop where
  go : ∃ (o : Int) (u : Ents), (∀ N, M <+: N → M.length < N.length → nodesGo N 0 N 0 [] = nodesGo N M.length (N.drop M.length) o u) ∧ (u.length : Int) + cur.length = o ∧ (∀ e ∈ u, e.2 = true ∧ ∃ a b : Int, e.1 = [a, b] ∧ a < M.length) ∧ ∀ p ∈ cur, Of M p ∧ mget false u [p.node, p.out] = false
  nd : cur.Nodup
  no5 : ∀ n ∈ M, n.kind ≠ 5
theorem good_0 : Good [] [] := ⟨⟨0, [], fun N _ _ => rfl, rfl, fun e he => by simp at he, fun p hp => by simp at hp⟩, List.nodup_nil, fun n hn => by simp at hn⟩
theorem Of.more {M : List Gp.Node} {p : Port} (h : Of M p) (n : Gp.Node) : Of (M ++ [n]) p := by
  obtain ⟨k, o, e, hk, ho⟩ := h
  refine ⟨k, o, e, by rw [List.length_append]; omega, ?_⟩
  rw [List.getElem_append_left hk]
  exact ho
theorem Good.perm {M : List Gp.Node} {cur cur' : List Port} (h : Good M cur) (hp : cur.Perm cur') : Good M cur' := by
  obtain ⟨⟨o, u, h1, h2, h3, h4⟩, hn, h5⟩ := h
  exact ⟨⟨o, u, h1, by rw [← hp.length_eq]; exact h2, h3, fun p hq => h4 p (hp.mem_iff.2 hq)⟩, hp.nodup_iff.1 hn, h5⟩
theorem Good.node {M : List Gp.Node} {rest : List Port} {n : Gp.Node} (h : Good M (n.ins ++ rest)) (hc : checkN n = 0) (hk : n.kind ≠ 5) : Good (M ++ [n]) (rest ++ ports M.length (outsN n).toNat) := by
  obtain ⟨⟨o, u, h1, h2, h3, h4⟩, hn, h5⟩ := h
  rw [List.nodup_append] at hn
  obtain ⟨hn1, hn2, hn3⟩ := hn
  obtain ⟨j1, j2, j3, j4⟩ := useAll_ok (fun p hp => h4 p (List.mem_append_left _ hp)) hn1 h3
  have hob := outsN_bnd hc
  refine ⟨⟨o + outsN n, useAll n.ins u, fun N hN hlt => ?_, ?_, fun e he => ?_, fun p hp => ?_⟩, ?_, fun x hx => ?_⟩
  · rw [List.length_append, List.length_singleton] at hlt ⊢
    have hM : M <+: N := (List.prefix_append M [n]).trans hN
    have hlt2 : M.length < N.length := by omega
    have hNn : N[M.length] = n := by
      obtain ⟨t, rfl⟩ := hN
      rw [List.getElem_append_left (by simp)]
      simp
    rw [h1 N hM hlt2, nodesGo_at hlt2, hNn, hc, if_neg (by simp), j1 N hM, if_neg (by simp), if_neg ?_]
    rw [Decidable.not_not]
    rw [decide_eq_false hk, decide_eq_false (by omega)]
  · rw [List.length_append] at h2
    rw [List.length_append, ports_len, j2]
    omega
  · obtain ⟨e1, a, b, e2, e3⟩ := j3 e he
    refine ⟨e1, a, b, e2, ?_⟩
    rw [List.length_append]
    omega
  · rcases List.mem_append.1 hp with hp | hp
    · obtain ⟨k1, k2⟩ := h4 p (List.mem_append_right _ hp)
      refine ⟨k1.more n, ?_⟩
      rw [j4 p.node p.out ?_]
      · exact k2
      · intro hq
        exact hn3 _ hq _ hp rfl
    · obtain ⟨j, hj, rfl⟩ := List.mem_map.1 hp
      rw [List.mem_range] at hj
      refine ⟨⟨M.length, j, rfl, by rw [List.length_append, List.length_singleton]; omega, ?_⟩, ?_⟩
      · simp only [List.getElem_append_right (Nat.le_refl _)]
        simp
        omega
      · show mget false (useAll n.ins u) [(M.length : Int), (j : Int)] = false
        have nokey : ∀ (w : Ents), (∀ e ∈ w, e.2 = true ∧ ∃ a b : Int, e.1 = [a, b] ∧ a < M.length) → mget false w [(M.length : Int), (j : Int)] = false := by
          intro w
          induction w with
          | nil => intro _; rfl
          | cons e r ih =>
            intro hw
            obtain ⟨ks, v⟩ := e
            obtain ⟨-, a, b, e2, e3⟩ := hw _ (List.mem_cons_self ..)
            unfold mget
            rw [if_neg ?_]
            · exact ih fun x hx => hw x (List.mem_cons_of_mem _ hx)
            · intro e4
              have e2 : ks = [a, b] := e2
              rw [e2] at e4
              have := (List.cons.inj e4).1
              omega
        exact nokey _ j3
  · rw [List.nodup_append]
    refine ⟨hn2, ?_, fun a ha b hb e => ?_⟩
    · unfold ports
      exact List.pairwise_map.2 (List.nodup_range.imp fun h e => h (by have e2 := congrArg Port.out e; simp at e2; omega))
    · subst e
      obtain ⟨j, hj, e⟩ := List.mem_map.1 hb
      obtain ⟨⟨k, o2, e2, hk2, -⟩, -⟩ := h4 a (List.mem_append_right _ ha)
      rw [e2] at e
      have := congrArg Port.node e
      simp at this
      omega
  · rcases List.mem_append.1 hx with hx | hx
    · exact h5 x hx
    · rw [List.mem_singleton] at hx
      subst hx; exact hk
theorem Good.sink {M : List Gp.Node} {n : Gp.Node} (h : Good M n.ins) (hc : checkN n = 0) (hk : n.kind = 5) (hl : M.length < 60) : checkG (M ++ [n]) = 0 := by
  obtain ⟨⟨o, u, h1, h2, h3, h4⟩, hn, h5⟩ := h
  obtain ⟨j1, j2, j3, j4⟩ := useAll_ok h4 hn h3
  have hlen : (M ++ [n]).length = M.length + 1 := by simp
  unfold checkG
  rw [if_neg (by omega), h1 _ (List.prefix_append M [n]) (by omega), nodesGo_at (by omega)]
  have hNn : (M ++ [n])[M.length]'(by omega) = n := by simp
  have hon : outsN n = 0 := by unfold outsN; rw [if_neg (by omega), if_pos hk]
  rw [hNn, hc, if_neg (by simp), j1 _ (List.prefix_append M [n]), if_neg (by simp), if_neg ?_]
  · rw [List.drop_eq_nil_of_le (by omega), nodesGo, if_neg ?_]
    rw [j2, hon, hlen]
    omega
  · rw [Decidable.not_not, decide_eq_true hk, decide_eq_true (by omega)]
end Gv
end PartP16
section PartP17
/-! What a plan makes. -/
namespace Gv
open Go Gp
def outOf (f : List FileS) (M : List Gp.Node) : List (List Bs) := M.foldl (fun out n => out ++ [makeN n f (insOf out n.ins)]) []
theorem outOf_snoc (f : List FileS) (M : List Gp.Node) (n : Gp.Node) : outOf f (M ++ [n]) = outOf f M ++ [makeN n f (insOf (outOf f M) n.ins)] := by
  unfold outOf
  rw [List.foldl_append]
  rfl
theorem outOf_len (f : List FileS) (M : List Gp.Node) : (outOf f M).length = M.length := by
  suffices h : ∀ (M : List Gp.Node) (out : List (List Bs)), (M.foldl (fun out n => out ++ [makeN n f (insOf out n.ins)]) out).length = out.length + M.length by simpa [outOf] using h M []
  intro M
  induction M with
  | nil => intro out; rfl
  | cons n r ih =>
    intro out
    rw [List.foldl_cons, ih, List.length_append]
    simp only [List.length_cons, List.length_nil]
    omega
theorem evalGo_pre (f : List FileS) : ∀ (M rest : List Gp.Node) (out : List (List Bs)), (∀ n ∈ M, n.kind ≠ 5) → evalGo f (M ++ rest) out = evalGo f rest (M.foldl (fun out n => out ++ [makeN n f (insOf out n.ins)]) out)
  | [], rest, out, _ => rfl
  | n :: r, rest, out, h => by
    rw [List.cons_append, evalGo, if_neg (h n (List.mem_cons_self ..)), evalGo_pre f r rest _ fun x hx => h x (List.mem_cons_of_mem _ hx)]
    rfl
/-- Nodes so far; the ports not taken; what stands at them. -/
structure St (f : List FileS) (M : List Gp.Node) (cur : List Port) (vals : List Bs) : Prop where
  good : Good M cur
  val : insOf (outOf f M) cur = vals
theorem St.len {f : List FileS} {M : List Gp.Node} {cur : List Port} {vals : List Bs} (h : St f M cur vals) : vals.length = cur.length := by
  rw [← h.val]
  simp [insOf]
theorem St.node {f : List FileS} {M : List Gp.Node} {n : Gp.Node} {rest : List Port} {vi vr : List Bs} (h : St f M (n.ins ++ rest) (vi ++ vr)) (hl : vi.length = n.ins.length) (hc : checkN n = 0) (hk : n.kind ≠ 5) : St f (M ++ [n]) (rest ++ ports M.length (outsN n).toNat) (vr ++ makeN n f vi) := by
  have hv := h.val
  unfold insOf at hv
  rw [List.map_append] at hv
  obtain ⟨v1, v2⟩ := List.append_inj hv (by rw [List.length_map]; exact hl.symm)
  refine ⟨h.good.node hc hk, ?_⟩
  rw [outOf_snoc]
  have e1 : insOf (outOf f M) n.ins = vi := v1
  rw [e1]
  have hx := makeN_outs (f := f) (ins := vi) hc
  obtain ⟨x, hxe⟩ : ∃ x, makeN n f vi = x := ⟨_, rfl⟩
  rw [hxe] at hx ⊢
  have hxl : (outsN n).toNat = x.length := by omega
  rw [hxl]
  unfold insOf
  rw [List.map_append]
  congr 1
  · rw [← v2]
    refine List.map_congr_left fun p hp => ?_
    obtain ⟨o, u, -, -, -, h4⟩ := h.good.go
    obtain ⟨⟨k, o2, rfl, hk2, -⟩, -⟩ := h4 p (List.mem_append_right _ hp)
    have hk3 : k < (outOf f M).length := by rw [outOf_len]; exact hk2
    unfold portAt
    show ((outOf f M ++ [x]).getD (k : Int).toNat []).getD _ [] = ((outOf f M).getD (k : Int).toNat []).getD _ []
    rw [Int.toNat_natCast, getD_app _ _ _ hk3]
  · unfold ports
    rw [List.map_map]
    refine List.ext_getElem (by simp) fun j h1 h2 => ?_
    simp only [List.getElem_map, List.getElem_range, Function.comp]
    show ((outOf f M ++ [x]).getD (M.length : Int).toNat []).getD (j : Int).toNat [] = x[j]
    rw [Int.toNat_natCast, Int.toNat_natCast, getD_app2 _ _ _ (by rw [outOf_len]; exact Nat.le_refl _), outOf_len, Nat.sub_self]
    show x.getD j [] = x[j]
    rw [List.getD_eq_getElem?_getD, List.getElem?_eq_getElem h2]
    rfl
/-- The lines at hand. -/
def allL (vals : List Bs) : List Bs := (vals.map linesOf).flatten
def Wh (vals : List Bs) : Prop := ∀ v ∈ vals, v = put (linesOf v)
theorem wh_put {l : List Bs} (h : NoNl l) : put l = put (linesOf (put l)) := by rw [linesOf_put h]
theorem allL_no (vals : List Bs) : NoNl (allL vals) := noNl_flat fun a ha => by
  obtain ⟨b, -, rfl⟩ := List.mem_map.1 ha
  exact linesOf_no10 b
theorem one_list {α : Type} {l : List α} (h : l.length = 1) : ∃ x, l = [x] := by
  match l, h with
  | [x], _ => exact ⟨x, rfl⟩
theorem checkN_src {s : Bs} (h : isWord s = true) : checkN (srcN s) = 0 := by
  unfold checkN
  simp [srcN, errN, insN, wantN, zCmd, h]
theorem checkN_sink {s : Bs} {p : Port} (h : isWord s = true) : checkN (sinkN s [p]) = 0 := by
  unfold checkN
  simp [sinkN, errN, insN, wantN, zCmd, h]
theorem checkN_split {w : Int} {p : Port} (h : 1 ≤ w ∧ w ≤ 5) : checkN (splitN w [p]) = 0 := by
  have h1 : ¬ (w < 1 ∨ 5 < w) := by omega
  unfold checkN
  simp [splitN, errN, insN, wantN, zCmd, h1]
theorem checkN_work {c : Cmd} {p : Port} (h : checkCmd c = 0) : checkN (workN c [p]) = 0 := by
  unfold checkN
  simp [workN, errN, insN, wantN, zCmd, h]
theorem checkN_join {how : Int} {c : Cmd} {ins : List Port} (h : checkJoin how c = 0) (hl : 1 ≤ ins.length ∧ ins.length ≤ 5) : checkN (joinN how c ins) = 0 := by
  have h1 : (1 : Int) ≤ (ins.length : Int) := by omega
  have h2 : (ins.length : Int) ≤ 5 := by omega
  unfold checkN
  simp [joinN, errN, insN, wantN, zCmd, h]
  exact ⟨decide_eq_true h1, decide_eq_true h2⟩
theorem st_src {f : List FileS} {d : Desk} {vals : List Bs} (h : St f d.nodes d.cur vals) {s : Bs} (hs : isWord s = true) : St f (d.src s).nodes (d.src s).cur (vals ++ [put (linesOf (fileAt f s))]) := by
  have := St.node (n := srcN s) (rest := d.cur) (vi := []) (vr := vals) (f := f) (M := d.nodes) h rfl (checkN_src hs) (by show (1 : Int) ≠ 5; decide)
  exact this
theorem st_join {f : List FileS} {M : List Gp.Node} {cur : List Port} {vals : List Bs} (h : St f M cur vals) {how : Int} {c : Cmd} (hj : checkJoin how c = 0) (hl : 1 ≤ cur.length ∧ cur.length ≤ 5) : St f (M ++ [joinN how c cur]) [⟨M.length, 0⟩] [put (joinB how c (vals.map linesOf))] := by
  have h2 : St f M ((joinN how c cur).ins ++ []) (vals ++ []) := by
    rw [List.append_nil, List.append_nil]
    exact h
  exact St.node h2 h.len (checkN_join hj hl) (by show (4 : Int) ≠ 5; decide)
theorem st_behind {f : List FileS} {d : Desk} {vals : List Bs} (h : St f d.nodes d.cur vals) (hw : Wh vals) (hl : 1 ≤ d.cur.length ∧ d.cur.length ≤ 5) : ∃ v', St f d.behind.nodes d.behind.cur v' ∧ Wh v' ∧ allL v' = allL vals ∧ d.behind.cur.length = 1 := by
  unfold Desk.behind
  split
  · rename_i h1
    refine ⟨_, st_join h (how := 1) (c := zCmd) (by decide) hl, fun v hv => ?_, ?_, rfl⟩
    · rw [List.mem_singleton] at hv
      subst hv
      exact wh_put (allL_no vals)
    · show [linesOf (put (allL vals))].flatten = _
      rw [linesOf_put (allL_no vals)]
      simp
  · exact ⟨vals, h, hw, rfl, by omega⟩
theorem outs_cons (i : Nat) (n : Nat) : outs (i : Int) (n + 1) = ⟨i, 0⟩ :: outs ((i + 1 : Nat) : Int) n := by
  unfold outs
  rw [List.range_succ_eq_map, List.map_cons, List.map_map]
  congr 1
  simp
  intro a ha
  omega
theorem st_work {f : List FileS} {c : Cmd} (hc : checkCmd c = 0) : ∀ (l dn : List Port) (vl vd : List Bs) (M : List Gp.Node), St f M (l ++ dn) (vl ++ vd) → vl.length = l.length → St f (M ++ l.map fun p => workN c [p]) (dn ++ outs M.length l.length) (vd ++ vl.map fun v => put (linesC c (linesOf v)))
  | [], dn, [], vd, M, h, _ => by simpa [outs] using h
  | [], dn, x :: r, vd, M, h, hl => by simp at hl
  | p :: r, dn, [], vd, M, h, hl => by simp at hl
  | p :: r, dn, v :: vr, vd, M, h, hl => by
    have h1 := St.node (n := workN c [p]) (rest := r ++ dn) (vi := [v]) (vr := vr ++ vd) h rfl (checkN_work hc) (by show (3 : Int) ≠ 5; decide)
    have h2 : St f (M ++ [workN c [p]]) (r ++ (dn ++ [⟨M.length, 0⟩])) (vr ++ (vd ++ [put (linesC c (linesOf v))])) := by
      rw [← List.append_assoc, ← List.append_assoc]
      exact h1
    have h3 := st_work hc r _ vr _ _ h2 (by simpa using hl)
    rw [List.length_append, List.length_singleton] at h3
    rw [List.map_cons, List.map_cons, List.length_cons, outs_cons]
    simpa [List.append_assoc] using h3
end Gv
end PartP17
section PartP18
/-! However wide a line is planned. -/
namespace Gv
open Go Gp
theorem linesC_len4 (c : Cmd) {l : List Bs} (h : l.length ≤ 4000) : (linesC c l).length ≤ 4000 := by
  unfold linesC
  split
  · rw [(sortB_perm l).length_eq]; exact h
  split
  · exact Nat.le_trans (onceB_sublist l).length_le h
  split
  · simp
  split
  · rw [List.length_take]; omega
  split
  · rw [List.length_drop]; omega
  · exact Nat.le_trans (List.length_filterMap_le _ _) h
theorem parts_flat (l : List Bs) (n : Nat) (hn : 0 < n) : ∀ k, ((List.range k).map fun k => part l n k).flatten = l.take (k * l.length / n)
  | 0 => by simp
  | k + 1 => by
    rw [List.range_succ, List.map_append, List.flatten_append, parts_flat l n hn k, ← part_cat l n k hn]
    simp
theorem split_all {l : List Bs} (h : NoNl l) {n : Nat} (hn : 0 < n) : allL (splitLines l n) = l ∧ Wh (splitLines l n) := by
  constructor
  · unfold allL splitLines
    rw [List.map_map]
    have e : (List.range n).map (linesOf ∘ fun k => put (part l n k)) = (List.range n).map fun k => part l n k := List.map_congr_left fun k _ => linesOf_put (part_no h n k)
    rw [e, parts_flat l n hn n, Nat.mul_div_cancel_left _ hn, List.take_length]
  · intro v hv
    obtain ⟨k, -, rfl⟩ := List.mem_map.1 hv
    exact wh_put (part_no h n k)
theorem st_wide {f : List FileS} {d : Desk} {vals : List Bs} {w : Int} (h : St f d.nodes d.cur vals) (hw : Wh vals) (h5 : 1 ≤ w ∧ w ≤ 5) (hl : d.cur.length = 1 ∨ (d.cur.length : Int) = w) : ∃ v', St f (d.wide w).nodes (d.wide w).cur v' ∧ Wh v' ∧ allL v' = allL vals ∧ ((d.wide w).cur.length : Int) = w := by
  unfold Desk.wide
  split
  · exact ⟨vals, h, hw, rfl, by omega⟩
  · rename_i h1
    obtain ⟨p, hp⟩ := one_list (l := d.cur) (by omega)
    obtain ⟨v, hv⟩ := one_list (l := vals) (by rw [h.len, hp]; rfl)
    rw [hp, hv] at h
    have h2 := St.node (n := splitN w [p]) (rest := []) (vi := [v]) (vr := []) h rfl (checkN_split h5) (by show (2 : Int) ≠ 5; decide)
    have e : makeN (splitN w [p]) f [v] = splitLines (linesOf v) w.toNat := rfl
    have e2 : outsN (splitN w [p]) = w := rfl
    rw [e, e2, List.nil_append, List.nil_append] at h2
    have hs := split_all (linesOf_no10 v) (n := w.toNat) (by omega)
    rw [hp, hv]
    refine ⟨_, h2, hs.2, ?_, ?_⟩
    · rw [hs.1]
      simp [allL]
    · show ((ports _ _).length : Int) = w
      rw [ports_len]
      omega
theorem each_map {c : Cmd} (hk : each c = true) (l : List (List Bs)) : (l.map (linesC c)).flatten = linesC c l.flatten := by
  have hk : 1 ≤ c.kind ∧ c.kind ≤ 5 := by simpa [Gp.each] using hk
  have e : ∀ a, linesC c a = a.filterMap (outC c) := fun a => by
    unfold linesC
    rw [if_neg (by omega), if_neg (by omega), if_neg (by omega), if_neg (by omega), if_neg (by omega)]
  rw [e, ← filterMap_flat]
  congr 1
  exact List.map_congr_left fun a _ => e a
theorem howFor_ok {c : Cmd} (hc : checkCmd c = 0) : checkJoin (howFor c) (if howFor c = 4 then c else zCmd) = 0 := by
  have hz : checkCmd c = 0 := hc
  unfold checkJoin
  rcases kinds hc with k | k | k | k | k | k | k | k | k | k <;> simp [howFor, k, hz]
theorem work_all {c : Cmd} (hc : checkCmd c = 0) (vals : List Bs) : (vals.map fun v => put (linesC c (linesOf v))).map linesOf = (vals.map linesOf).map (linesC c) ∧ Wh (vals.map fun v => put (linesC c (linesOf v))) := by
  constructor
  · rw [List.map_map, List.map_map]
    exact List.map_congr_left fun v _ => linesOf_put (linesC_no hc (linesOf_no10 v))
  · intro v hv
    obtain ⟨x, -, rfl⟩ := List.mem_map.1 hv
    exact wh_put (linesC_no hc (linesOf_no10 x))
theorem flat_el {l : List (List Bs)} {a : List Bs} (h : a ∈ l) : a.length ≤ l.flatten.length := by
  obtain ⟨s, t, rfl⟩ := List.append_of_mem h
  simp
  omega
theorem st_step {f : List FileS} {d : Desk} {vals : List Bs} {w : Int} {c : Cmd} (h : St f d.nodes d.cur vals) (hw : Wh vals) (h5 : 1 ≤ w ∧ w ≤ 5) (hl : d.cur.length = 1 ∨ (d.cur.length : Int) = w) (hc : checkCmd c = 0) : ∃ v', St f (d.step w c).nodes (d.step w c).cur v' ∧ Wh v' ∧ ((allL vals).length ≤ 4000 → allL v' = linesC c (allL vals)) ∧ ((d.step w c).cur.length = 1 ∨ ((d.step w c).cur.length : Int) = w) := by
  obtain ⟨vw, s1, s2, s3, s4⟩ := st_wide h hw h5 hl
  have s5 := St.len s1
  have h2 : St f ((d.wide w).work c).nodes ((d.wide w).work c).cur (vw.map fun v => put (linesC c (linesOf v))) := by
    have := st_work hc (d.wide w).cur [] vw [] (d.wide w).nodes (by rw [List.append_nil, List.append_nil]; exact s1) s5
    simpa [Desk.work] using this
  obtain ⟨w1, w2⟩ := work_all hc vw
  have hcl : (((d.wide w).work c).cur.length : Int) = w := by
    show ((outs _ _).length : Int) = w
    rw [outs_len]
    exact s4
  unfold Desk.step
  split
  · rename_i he
    refine ⟨_, h2, w2, fun _ => ?_, .inr hcl⟩
    show (List.map linesOf (vw.map fun v => put (linesC c (linesOf v)))).flatten = linesC c (allL vals)
    rw [w1, ← s3]
    rcases he with he | he
    · exact each_map he _
    · obtain ⟨v, hv⟩ := one_list (l := vw) (by omega)
      rw [hv]
      simp [allL]
  · rename_i he
    have hj := st_join h2 (howFor_ok hc) (by omega)
    refine ⟨_, hj, fun v hv => ?_, fun h4 => ?_, .inl rfl⟩
    · rw [List.mem_singleton] at hv
      subst hv
      refine wh_put (joinB_no (howFor_ok hc) fun a ha => ?_)
      obtain ⟨b, -, rfl⟩ := List.mem_map.1 ha
      exact linesOf_no10 b
    · have hno : NoNl (joinB (howFor c) (if howFor c = 4 then c else zCmd) ((vw.map fun v => put (linesC c (linesOf v))).map linesOf)) := joinB_no (howFor_ok hc) fun a ha => by
        obtain ⟨b, -, rfl⟩ := List.mem_map.1 ha
        exact linesOf_no10 b
      show [linesOf (put _)].flatten = _
      rw [linesOf_put hno, w1, join_whole hc (vw.map linesOf) fun a ha => ?_]
      · rw [← s3]
        simp [allL]
      · have := flat_el ha
        rw [← s3] at h4
        unfold allL at h4
        omega
theorem st_steps {f : List FileS} {w : Int} (h5 : 1 ≤ w ∧ w ≤ 5) : ∀ (cs : List Cmd) (d : Desk) (vals : List Bs), (∀ c ∈ cs, checkCmd c = 0) → St f d.nodes d.cur vals → Wh vals → (d.cur.length = 1 ∨ (d.cur.length : Int) = w) → ∃ v', St f (steps w d cs).nodes (steps w d cs).cur v' ∧ Wh v' ∧ ((allL vals).length ≤ 4000 → allL v' = doLines cs (allL vals)) ∧ ((steps w d cs).cur.length = 1 ∨ ((steps w d cs).cur.length : Int) = w)
  | [], d, vals, _, h, hw, hl => ⟨vals, h, hw, fun _ => rfl, hl⟩
  | c :: r, d, vals, hc, h, hw, hl => by
    obtain ⟨v1, a1, a2, a3, a4⟩ := st_step h hw h5 hl (hc c (List.mem_cons_self ..))
    obtain ⟨v2, b1, b2, b3, b4⟩ := st_steps h5 r _ v1 (fun x hx => hc x (List.mem_cons_of_mem _ hx)) a1 a2 a4
    refine ⟨v2, b1, b2, fun h4 => ?_, b4⟩
    have e := a3 h4
    rw [b3 (by rw [e]; exact linesC_len4 c h4), e]
    rfl
theorem st_srcs {f : List FileS} : ∀ (l : List Bs) (d : Desk) (vals : List Bs), (∀ s ∈ l, isWord s = true) → St f d.nodes d.cur vals → Wh vals → ∃ v', St f (l.foldl Desk.src d).nodes (l.foldl Desk.src d).cur v' ∧ Wh v' ∧ allL v' = allL vals ++ (l.map fun s => linesOf (fileAt f s)).flatten ∧ (l.foldl Desk.src d).cur.length = d.cur.length + l.length
  | [], d, vals, _, h, hw => ⟨vals, h, hw, by simp, by simp⟩
  | s :: r, d, vals, hs, h, hw => by
    have h1 := st_src h (hs s (List.mem_cons_self ..))
    have hw1 : Wh (vals ++ [put (linesOf (fileAt f s))]) := fun v hv => by
      rcases List.mem_append.1 hv with hv | hv
      · exact hw v hv
      · rw [List.mem_singleton] at hv
        subst hv
        exact wh_put (linesOf_no10 _)
    obtain ⟨v2, b1, b2, b3, b4⟩ := st_srcs r _ _ (fun x hx => hs x (List.mem_cons_of_mem _ hx)) h1 hw1
    refine ⟨v2, b1, b2, ?_, ?_⟩
    · rw [b3]
      simp [allL, linesOf_put (linesOf_no10 (fileAt f s))]
    · rw [List.foldl_cons, b4]
      simp [Desk.src]
      omega
theorem gatherGo_ok {f : List FileS} : ∀ (l : List Bs) (a : List Bs) {x : Bs}, gatherGo f (put a) l = (x, 0) → x = put (a ++ (l.map fun s => linesOf (fileAt f s)).flatten)
  | [], a, x, h => by
    simp only [gatherGo, Prod.mk.injEq, and_true] at h
    rw [← h]
    simp
  | s :: r, a, x, h => by
    rw [gatherGo] at h
    split at h
    · cases h
    · have e : put a ++ whole (fileAt f s) = put (a ++ linesOf (fileAt f s)) := by rw [put_append]; rfl
      rw [e] at h
      rw [gatherGo_ok r _ h]
      simp
/-- What a right plan makes. -/
theorem plan_makes {l : LineS} {w : Int} (hc : checkLine l = 0) (h5 : 1 ≤ w ∧ w ≤ 5) (f : List FileS) : checkG (planNodes l w) = 0 ∧ ∃ v, evalGo f (planNodes l w) [] = (v, 0) ∧ ((l.frm.map fun s => linesOf (fileAt f s)).flatten.length ≤ 4000 → v = put (doLines l.cmds (l.frm.map fun s => linesOf (fileAt f s)).flatten)) := by
  obtain ⟨hf, hw, hto, hcm⟩ : (1 ≤ l.frm.length ∧ l.frm.length ≤ 4 ∧ l.cmds.length ≤ 6) ∧ (∀ s ∈ l.frm, isWord s = true) ∧ isWord l.to = true ∧ ∀ c ∈ l.cmds, checkCmd c = 0 := by
    unfold checkLine at hc
    split at hc
    · cases hc
    · rename_i h1
      split at hc
      · cases hc
      · rename_i h2
        have h2 : (l.frm ++ [l.to]).all isWord = true := by simpa using h2
        rw [List.all_eq_true] at h2
        exact ⟨by omega, fun s hs => h2 s (List.mem_append_left _ hs), h2 _ (by simp), firstBad_at hc⟩
  have s0 : St f (⟨[], []⟩ : Desk).nodes (⟨[], []⟩ : Desk).cur [] := ⟨good_0, rfl⟩
  obtain ⟨v1, a1, a2, a3, a4⟩ := st_srcs l.frm ⟨[], []⟩ [] hw s0 (fun v hv => by simp at hv)
  have a4 : (srcs l.frm).cur.length = l.frm.length := by
    have := a4
    simpa [srcs] using this
  obtain ⟨v2, b1, b2, b3, b4⟩ := st_behind (d := srcs l.frm) a1 a2 (by omega)
  obtain ⟨v3, c1, c2, c3, c4⟩ := st_steps h5 l.cmds _ v2 hcm b1 b2 (.inl b4)
  obtain ⟨v4, d1, d2, d3, d4⟩ := st_behind c1 c2 (by omega)
  have hD := (steps_ok (l := l) ⟨hf.1, hf.2.1⟩ h5 l.cmds.length (Nat.le_refl _)).len
  rw [List.take_length] at hD
  have hlen : (planDesk l w).nodes.length < 60 := by
    have hb : ∀ d : Desk, d.nodes.length ≤ 47 → d.behind.nodes.length < 60 := fun d hd => by
      unfold Desk.behind
      split
      · show (d.nodes ++ [_]).length < 60
        rw [List.length_append, List.length_singleton]; omega
      · omega
    exact hb _ (by omega)
  obtain ⟨p, hp⟩ := one_list d4
  obtain ⟨v, hv⟩ := one_list (l := v4) (by rw [d1.len]; exact d4)
  rw [hv] at d1 d2 d3
  have hg := d1.good
  have hck : checkN (sinkN l.to (planDesk l w).cur) = 0 := by
    show checkN (sinkN l.to ((steps w (srcs l.frm).behind l.cmds).behind).cur) = 0
    rw [hp]
    exact checkN_sink hto
  refine ⟨Good.sink (n := sinkN l.to (planDesk l w).cur) hg hck rfl hlen, v, ?_, fun h4 => ?_⟩
  · unfold planNodes
    have hno : ∀ n ∈ (planDesk l w).nodes, n.kind ≠ 5 := hg.no5
    rw [evalGo_pre f _ _ _ hno]
    show evalGo f [_] (outOf f (planDesk l w).nodes) = _
    rw [evalGo, if_pos (show (sinkN l.to (planDesk l w).cur).kind = 5 from rfl)]
    show ((insOf (outOf f (planDesk l w).nodes) (planDesk l w).cur).getD 0 [], _) = _
    have e : insOf (outOf f (planDesk l w).nodes) (planDesk l w).cur = [v] := d1.val
    rw [e]
    rfl
  · have e1 : allL v1 = (l.frm.map fun s => linesOf (fileAt f s)).flatten := by rw [a3]; simp [allL]
    have e2 : allL [v] = linesOf v := by simp [allL]
    have e3 := c3 (by rw [b3, e1]; exact h4)
    rw [d2 v (List.mem_singleton.2 rfl), ← e2, d3, e3, b3, e1]
end Gv
end PartP18
section PartP19
/-! Each output taken: by number, and one by one. -/
namespace Gv
open Go Gp
def dN : Gp.Node := ⟨0, [], zCmd, 0, 0, []⟩
def keyP (p : Port) : List Int := [p.node, p.out]
/-- The outputs of the first `i` nodes. -/
def allK (N : List Gp.Node) : Nat → List (List Int)
  | 0 => []
  | k + 1 => allK N k ++ (List.range (outsN (N.getD k dN)).toNat).map fun (o : Nat) => [(k : Int), (o : Int)]
theorem mem_allK {N : List Gp.Node} {x : List Int} : ∀ {i : Nat}, x ∈ allK N i ↔ ∃ k o : Nat, x = [(k : Int), (o : Int)] ∧ k < i ∧ (o : Int) < outsN (N.getD k dN)
  | 0 => by simp [allK]
  | i + 1 => by
    rw [allK, List.mem_append, mem_allK]
    constructor
    · rintro (⟨k, o, h1, h2, h3⟩ | h)
      · exact ⟨k, o, h1, by omega, h3⟩
      · obtain ⟨o, h1, h2⟩ := List.mem_map.1 h
        rw [List.mem_range] at h1
        exact ⟨i, o, h2.symm, by omega, by omega⟩
    · rintro ⟨k, o, h1, h2, h3⟩
      rcases Nat.lt_or_ge k i with h | h
      · exact .inl ⟨k, o, h1, h, h3⟩
      · have : k = i := by omega
        subst this
        exact .inr (List.mem_map.2 ⟨o, List.mem_range.2 (by omega), h1.symm⟩)
theorem nodup_allK {N : List Gp.Node} : ∀ i : Nat, (allK N i).Nodup
  | 0 => List.nodup_nil
  | i + 1 => by
    rw [allK, List.nodup_append]
    refine ⟨nodup_allK i, List.pairwise_map.2 (List.nodup_range.imp fun h e => h (by simp at e; omega)), fun a ha b hb e => ?_⟩
    subst e
    obtain ⟨k, o, h1, h2, -⟩ := mem_allK.1 ha
    obtain ⟨o2, -, h4⟩ := List.mem_map.1 hb
    rw [h1] at h4
    have := (List.cons.inj h4).1
    omega
theorem mget_true {u : Ents} (h : ∀ e ∈ u, e.2 = true) (k : List Int) : mget false u k = true ↔ k ∈ u.map Prod.fst := by
  induction u with
  | nil => simp [mget]
  | cons e r ih =>
    obtain ⟨j, b⟩ := e
    have hb : b = true := h (j, b) (List.mem_cons_self ..)
    have ih := ih fun x hx => h x (List.mem_cons_of_mem _ hx)
    unfold mget
    split
    · rename_i e1
      simp [hb, e1]
    · rename_i e1
      rw [ih, List.map_cons, List.mem_cons]
      constructor
      · exact .inr
      · rintro (h1 | h1)
        · exact absurd h1.symm e1
        · exact h1
theorem all_of_len {α : Type} [DecidableEq α] {a b : List α} (ha : a.Nodup) (hs : ∀ x ∈ a, x ∈ b) (hl : a.length = b.length) : ∀ x ∈ b, x ∈ a := fun x hx => by
  refine Decidable.byContradiction fun hn => ?_
  have h1 : (x :: a).Nodup := List.nodup_cons.2 ⟨hn, ha⟩
  have h2 : ∀ y ∈ x :: a, y ∈ b := fun y hy => by
    rcases List.mem_cons.1 hy with rfl | hy
    · exact hx
    · exact hs y hy
  have := List.Nodup.length_le_of_subset h1 h2
  rw [List.length_cons] at this
  omega
/-- What is used, up to node `i`. -/
structure Used (N : List Gp.Node) (i : Nat) (u : Ents) : Prop where
  tr : ∀ e ∈ u, e.2 = true
  nd : (u.map Prod.fst).Nodup
  of : ∀ x ∈ u.map Prod.fst, x ∈ allK N i
theorem used_all {N : List Gp.Node} {i : Nat} {u : Ents} (h : Used N i u) : ((u.length : Int) = (allK N i).length) ↔ ∀ x ∈ allK N i, mget false u x = true := by
  constructor
  · intro hl x hx
    rw [mget_true h.tr]
    exact all_of_len h.nd h.of (by rw [List.length_map]; omega) x hx
  · intro ha
    have h1 := List.Nodup.length_le_of_subset h.nd (l₂ := allK N i) h.of
    have h2 := List.Nodup.length_le_of_subset (nodup_allK (N := N) i) (l₂ := u.map Prod.fst) fun x hx => (mget_true h.tr x).1 (ha x hx)
    rw [List.length_map] at h1 h2
    omega
theorem used_more {N : List Gp.Node} {i : Nat} {u : Ents} (h : Used N i u) : Used N (i + 1) u := ⟨h.tr, h.nd, fun x hx => by
  rw [allK]
  exact List.mem_append_left _ (h.of x hx)⟩
theorem ports_used {N : List Gp.Node} {i : Nat} : ∀ {l : List Port} {u u' : Ents}, Used N i u → portsGo N i l u = (0, u') → Used N i u'
  | [], u, u', h, e => by
    simp only [portsGo, Prod.mk.injEq, true_and] at e
    subst e
    exact h
  | p :: r, u, u', h, e => by
    rw [portsGo] at e
    split at e
    · cases e
    · rename_i h1
      split at e
      · cases e
      · rename_i h2
        have h2 : mget false u [p.node, p.out] = false := by simpa using h2
        have hput := mput_new h.tr h2
        refine ports_used ?_ e
        rw [hput]
        refine ⟨fun x hx => ?_, ?_, fun x hx => ?_⟩
        · rcases List.mem_append.1 hx with hx | hx
          · exact h.tr x hx
          · rw [List.mem_singleton] at hx
            subst hx; rfl
        · rw [List.map_append, List.nodup_append]
          refine ⟨h.nd, by simp, fun a ha b hb e2 => ?_⟩
          subst e2
          have hb : a = [p.node, p.out] := by simpa using hb
          rw [hb] at ha
          have := (mget_true h.tr _).2 ha
          rw [h2] at this
          cases this
        · rw [List.map_append] at hx
          rcases List.mem_append.1 hx with hx | hx
          · exact h.of x hx
          · have hx : x = [p.node, p.out] := by simpa using hx
            refine mem_allK.2 ⟨p.node.toNat, p.out.toNat, ?_, by omega, ?_⟩
            · rw [hx, Int.toNat_of_nonneg (by omega), Int.toNat_of_nonneg (by omega)]
            · rw [Int.toNat_of_nonneg (by omega)]
              show p.out < outsN (N.getD p.node.toNat ⟨0, [], zCmd, 0, 0, []⟩)
              omega
/-- Checked as the document does: at the end output by output. -/
def nodesR (N : List Gp.Node) : Nat → List Gp.Node → Ents → Int
  | i, [], u => if N.length = 0 then 4 else if (allK N N.length).all (fun x => mget false u x) = true then 0 else 4
  | i, n :: r, u => if checkN n ≠ 0 then checkN n else if (portsGo N i n.ins u).1 ≠ 0 then (portsGo N i n.ins u).1 else if decide (n.kind = 5) ≠ decide ((i : Int) = (N.length : Int) - 1) then 4 else nodesR N (i + 1) r (portsGo N i n.ins u).2
theorem nodesR_eq {N : List Gp.Node} : ∀ (r : List Gp.Node) (i : Nat) (u : Ents), N.drop i = r → Used N i u → i ≤ N.length → nodesR N i r u = nodesGo N i r ((allK N i).length : Nat) u
  | [], i, u, hd, hu, hi => by
    have ei : i = N.length := by
      have := congrArg List.length hd
      rw [List.length_drop] at this
      simp at this
      omega
    subst ei
    have h1 := used_all hu
    rw [nodesR, nodesGo]
    by_cases h0 : N.length = 0
    · rw [if_pos h0, if_pos (.inl h0)]
    · rw [if_neg h0]
      by_cases h2 : (u.length : Int) = (allK N N.length).length
      · rw [if_pos (List.all_eq_true.2 fun x hx => h1.1 h2 x hx), if_neg (by omega)]
      · rw [if_neg (fun h => h2 (h1.2 fun x hx => List.all_eq_true.1 h x hx)), if_pos (.inr h2)]
  | n :: r, i, u, hd, hu, hi => by
    have hlt : i < N.length := by
      have := congrArg List.length hd
      rw [List.length_drop, List.length_cons] at this
      omega
    rw [List.drop_eq_getElem_cons hlt] at hd
    obtain ⟨hn, hr⟩ := List.cons.inj hd
    rw [nodesR, nodesGo]
    split
    · rfl
    · rename_i h1
      split
      · rfl
      · rename_i h2
        split
        · rfl
        · have hp : portsGo N i n.ins u = (0, (portsGo N i n.ins u).2) := by rw [← Decidable.not_not.1 h2]
          have hu2 := used_more (ports_used hu hp)
          rw [nodesR_eq r (i + 1) _ hr hu2 hlt]
          congr 1
          have hob := outsN_bnd (Decidable.not_not.1 h1)
          have hg : N.getD i dN = n := by
            rw [List.getD_eq_getElem?_getD, List.getElem?_eq_getElem hlt, ← hn]; rfl
          rw [allK, List.length_append, List.length_map, List.length_range, hg]
          omega
theorem checkG_R (N : List Gp.Node) : checkG N = if 60 < N.length then 2 else nodesR N 0 N [] := by
  unfold checkG
  split
  · rfl
  · rw [nodesR_eq N 0 [] rfl ⟨fun e he => by simp at he, by simp, fun x hx => by simp at hx⟩ (Nat.zero_le _)]
    rfl
end Gv
end PartP19
section PartP20
/-! A node, as the document checks it. -/
namespace Gv
open Go Gp
def descR (n : Gp.Node) : Int × Int × Int × Bool × Bool × Bool × Bool :=
  (if n.kind < 1 ∨ 5 < n.kind then 4 else errN n, if n.kind = 1 then 0 else 1, if n.kind = 1 then 0 else if n.kind = 4 then 5 else 1, decide (n.kind = 1) || decide (n.kind = 5), decide (n.kind = 2), decide (n.kind = 3) || decide (n.kind = 4), decide (n.kind = 4))
def rightR (n : Gp.Node) (s : Int × Int × Int × Bool × Bool × Bool × Bool) : Prop := s.2.1 ≤ (n.ins.length : Int) ∧ (n.ins.length : Int) ≤ s.2.2.1 ∧ (s.2.2.2.1 = true ∨ n.file = []) ∧ (s.2.2.2.2.1 = true ∨ n.wide = 0) ∧ (s.2.2.2.2.2.1 = true ∨ n.c = zCmd) ∧ (s.2.2.2.2.2.2 = true ∨ n.how = 0)
theorem checkN_R (n : Gp.Node) : ((descR n).1 ≠ 0 → checkN n = (descR n).1) ∧ ((descR n).1 = 0 → rightR n (descR n) → checkN n = 0) ∧ ((descR n).1 = 0 → ¬ rightR n (descR n) → checkN n = 4) := by
  obtain ⟨k, f, c, h, w, l⟩ := n
  by_cases hk : k < 1 ∨ 5 < k
  · have e : checkN ⟨k, f, c, h, w, l⟩ = 4 := by unfold checkN; rw [if_pos hk]
    have e2 : (descR ⟨k, f, c, h, w, l⟩).1 = 4 := by unfold descR; exact if_pos hk
    rw [e, e2]
    exact ⟨fun _ => rfl, fun h => absurd h (by decide), fun h => absurd h (by decide)⟩
  · have e2 : (descR ⟨k, f, c, h, w, l⟩).1 = errN ⟨k, f, c, h, w, l⟩ := by unfold descR; exact if_neg hk
    have e : checkN ⟨k, f, c, h, w, l⟩ = if errN ⟨k, f, c, h, w, l⟩ ≠ 0 then errN ⟨k, f, c, h, w, l⟩ else if insN ⟨k, f, c, h, w, l⟩ = true ∧ (⟨k, f, c, h, w, l⟩ : Gp.Node) = wantN ⟨k, f, c, h, w, l⟩ then 0 else 4 := by unfold checkN; rw [if_neg hk]
    rw [e, e2]
    have key : (insN ⟨k, f, c, h, w, l⟩ = true ∧ (⟨k, f, c, h, w, l⟩ : Gp.Node) = wantN ⟨k, f, c, h, w, l⟩) ↔ rightR ⟨k, f, c, h, w, l⟩ (descR ⟨k, f, c, h, w, l⟩) := by
      have hk2 : k = 1 ∨ k = 2 ∨ k = 3 ∨ k = 4 ∨ k = 5 := by omega
      rcases hk2 with rfl | rfl | rfl | rfl | rfl
      all_goals simp [insN, wantN, rightR, descR]
      · constructor
        · rintro ⟨⟨x1, x2⟩, x3, x4, x5⟩
          exact ⟨List.length_eq_zero_iff.1 (by omega), x5, x3, x4⟩
        · rintro ⟨x1, x2, x3, x4⟩
          subst x1
          exact ⟨⟨by decide, by decide⟩, x3, x4, x2⟩
      · constructor
        · rintro ⟨x1, x2⟩; exact ⟨by omega, by omega, x2⟩
        · rintro ⟨x1, x2, x3⟩; exact ⟨by omega, x3⟩
      · constructor
        · rintro ⟨x1, x2, x3, x4⟩; exact ⟨by omega, by omega, x2, x4, x3⟩
        · rintro ⟨x1, x2, x3, x4, x5⟩; exact ⟨by omega, x3, x5, x4⟩
      · constructor
        · rintro ⟨⟨x1, x2⟩, x3⟩; exact ⟨x1, x2, x3⟩
        · rintro ⟨x1, x2, x3⟩; exact ⟨⟨x1, x2⟩, x3⟩
      · constructor
        · rintro ⟨⟨x1, x2⟩, x3, x4, x5⟩; exact ⟨by omega, by omega, x5, x3, x4⟩
        · rintro ⟨x1, x2, x3, x4, x5⟩; exact ⟨⟨by omega, by omega⟩, x4, x5, x3⟩
    refine ⟨fun h1 => if_pos h1, fun h1 h2 => ?_, fun h1 h2 => ?_⟩
    · rw [if_neg (fun x => x h1), if_pos (key.2 h2)]
    · rw [if_neg (fun x => x h1), if_neg (fun x => h2 (key.1 x))]
theorem nodesR_at {N : List Gp.Node} {i : Nat} (hi : i < N.length) (u : Ents) : nodesR N i (N.drop i) u = if checkN N[i] ≠ 0 then checkN N[i] else if (portsGo N i N[i].ins u).1 ≠ 0 then (portsGo N i N[i].ins u).1 else if decide (N[i].kind = 5) ≠ decide ((i : Int) = (N.length : Int) - 1) then 4 else nodesR N (i + 1) (N.drop (i + 1)) (portsGo N i N[i].ins u).2 := by
  rw [List.drop_eq_getElem_cons hi, nodesR]
end Gv
end PartP20
section PartS1
/-! Texts cut at what stands between, in plain words. -/
namespace Gv
open Go Gp
theorem index_cases (s sep : Bs) : Lib.index s sep = -1 ∨ ∃ i : Nat, Lib.index s sep = i ∧ i + sep.length ≤ s.length := by
  have h1 := Lib.index_ge s sep
  rcases Decidable.em (Lib.index s sep = -1) with h | h
  · exact .inl h
  · have h2 := Lib.index_room s sep (by omega)
    exact .inr ⟨(Lib.index s sep).toNat, by omega, by omega⟩
theorem countFrom_fuel {sub : Bs} (h : sub ≠ []) : ∀ (n m : Nat) (s : Bs), s.length < n → s.length < m → Lib.countFrom sub n s = Lib.countFrom sub m s
  | 0, _, s, h1, _ => by omega
  | _, 0, s, _, h2 => by omega
  | n + 1, m + 1, s, h1, h2 => by
    unfold Lib.countFrom
    rcases index_cases s sub with e | ⟨i, e, hi⟩
    · rw [e]; rfl
    · rw [e]
      have : ((i : Int) == -1) = false := by simp
      rw [this]
      have hl : 0 < sub.length := List.length_pos_iff.2 h
      have := countFrom_fuel h n m (s.drop (i + sub.length)) (by rw [List.length_drop]; omega) (by rw [List.length_drop]; omega)
      simp only [Bool.false_eq_true, if_false, Int.toNat_natCast, this]
theorem split_miss {s sep : Bs} (h : Lib.index s sep = -1) : Lib.split s sep = [s] := by
  unfold Lib.split Lib.count Lib.countFrom
  rw [h]
  rfl
theorem split_hit {s sep : Bs} (hs : sep ≠ []) {i : Nat} (h : Lib.index s sep = i) (hi : i + sep.length ≤ s.length) : Lib.split s sep = s.take i :: Lib.split (s.drop (i + sep.length)) sep := by
  have hl : 0 < sep.length := List.length_pos_iff.2 hs
  have e : ((i : Int) == -1) = false := by simp
  have hc : Lib.count s sep = Lib.count (s.drop (i + sep.length)) sep + 1 := by
    unfold Lib.count
    conv => lhs; unfold Lib.countFrom
    rw [h, e]
    simp only [Bool.false_eq_true, if_false, Int.toNat_natCast]
    rw [countFrom_fuel hs s.length ((s.drop (i + sep.length)).length + 1) _ (by rw [List.length_drop]; omega) (by omega)]
    omega
  unfold Lib.split
  rw [hc]
  conv => lhs; unfold Lib.splitK
  rw [h]
  simp only [e, Bool.false_eq_true, if_false, Int.toNat_natCast, Nat.add_zero]
theorem join_cons (a : Bs) {l : List Bs} (h : l ≠ []) (sep : Bs) : Lib.join (a :: l) sep = a ++ sep ++ Lib.join l sep := by
  cases l with
  | nil => exact absurd rfl h
  | cons b r =>
    unfold Lib.join
    simp [List.intercalate, List.intersperse]
theorem join_one (a sep : Bs) : Lib.join [a] sep = a := by simp [Lib.join, List.intercalate]
theorem take_mid {s sep : Bs} {i : Nat} (ho : Lib.occAt s sep i = true) : s = s.take i ++ sep ++ s.drop (i + sep.length) := by
  unfold Lib.occAt at ho
  obtain ⟨t, ht⟩ := List.isPrefixOf_iff_prefix.1 ho
  have h1 : s.drop (i + sep.length) = t := by
    rw [← List.drop_drop, ← ht, List.drop_left]
  rw [h1, List.append_assoc, ht, List.take_append_drop]
theorem index_occ {s sep : Bs} {i : Nat} (h : Lib.index s sep = i) : Lib.occAt s sep i = true := by
  rcases Lib.index_spec s sep with ⟨h1, -⟩ | ⟨j, h1, h2, h3, -⟩
  · omega
  · have : i = j := by omega
    subst this; exact h3
theorem join_split {sep : Bs} (hs : sep ≠ []) : ∀ (n : Nat) (s : Bs), s.length ≤ n → Lib.join (Lib.split s sep) sep = s := by
  intro n
  induction n with
  | zero =>
    intro s h
    have h0 : s = [] := List.length_eq_zero_iff.1 (by omega)
    subst h0
    rcases index_cases [] sep with e | ⟨i, e, hi⟩
    · rw [split_miss e, join_one]
    · have := List.length_pos_iff.2 hs
      have hi : i + sep.length ≤ 0 := hi
      omega
  | succ n ih =>
    intro s h
    rcases index_cases s sep with e | ⟨i, e, hi⟩
    · rw [split_miss e, join_one]
    · have hl := List.length_pos_iff.2 hs
      rw [split_hit hs e hi, join_cons _ (split_ne _ _), ih _ (by rw [List.length_drop]; omega)]
      exact (take_mid (index_occ e)).symm
/-- Three bytes, whose second one is nowhere else. -/
theorem index3 {a b c : UInt8} (hab : a ≠ b) {p : Bs} (hp : b ∉ p) (r : Bs) : Lib.index (p ++ [a, b, c] ++ r) [a, b, c] = (p.length : Int) := by
  refine Lib.index_first (by simp) ?_ fun j hj => ?_
  · unfold Lib.occAt
    rw [List.append_assoc, List.drop_left]
    exact List.isPrefixOf_iff_prefix.2 (List.prefix_append _ _)
  · refine Bool.eq_false_iff.2 fun h => ?_
    have h2 := Lib.occAt_second (c0 := a) (c1 := b) (t := [c]) rfl h
    rw [List.append_assoc] at h2
    rcases Nat.lt_or_ge (j + 1) p.length with h3 | h3
    · rw [List.getElem?_append_left h3] at h2
      exact hp (List.mem_of_getElem? h2)
    · have : j + 1 = p.length := by omega
      rw [List.getElem?_append_right (by omega), this, Nat.sub_self] at h2
      simp at h2
      exact hab h2
theorem index3_no {a b c : UInt8} {s : Bs} (h : b ∉ s) : Lib.index s [a, b, c] = -1 := by
  refine Lib.index_none fun j _ => Bool.eq_false_iff.2 fun h2 => ?_
  exact h (List.mem_of_getElem? (Lib.occAt_second (c0 := a) (c1 := b) (t := [c]) rfl h2))
theorem split_join3 {a b c : UInt8} (hab : a ≠ b) : ∀ (l : List Bs), l ≠ [] → (∀ p ∈ l, b ∉ p) → Lib.split (Lib.join l [a, b, c]) [a, b, c] = l
  | [], h, _ => absurd rfl h
  | [p], _, h => by rw [join_one, split_miss (index3_no (h p (by simp)))]
  | p :: q :: r, _, h => by
    have hp := h p (by simp)
    rw [join_cons _ (by simp)]
    rw [split_hit (by simp) (index3 hab hp _) (by simp)]
    have e1 : (p ++ [a, b, c] ++ Lib.join (q :: r) [a, b, c]).take p.length = p := by rw [List.append_assoc, List.take_left]
    have e2 : (p ++ [a, b, c] ++ Lib.join (q :: r) [a, b, c]).drop (p.length + [a, b, c].length) = Lib.join (q :: r) [a, b, c] := by
      rw [show p.length + [a, b, c].length = (p ++ [a, b, c]).length by simp, List.drop_left]
    rw [e1, e2, split_join3 hab (q :: r) (by simp) fun x hx => h x (List.mem_cons_of_mem _ hx)]
theorem split_join1 {a : UInt8} : ∀ (l : List Bs), l ≠ [] → (∀ p ∈ l, a ∉ p) → Lib.split (Lib.join l [a]) [a] = l
  | [], h, _ => absurd rfl h
  | [p], _, h => by rw [join_one, split_no (h p (by simp))]
  | p :: q :: r, _, h => by
    rw [join_cons _ (by simp), List.append_assoc]
    show Lib.split (p ++ a :: Lib.join (q :: r) [a]) [a] = _
    rw [split_at (h p (by simp)), split_join1 (q :: r) (by simp) fun x hx => h x (List.mem_cons_of_mem _ hx)]
theorem cut_miss {s sep : Bs} (h : Lib.index s sep = -1) : Lib.cut s sep = (s, [], false) := by
  unfold Lib.cut
  rw [h]
  rfl
theorem cut_hit {s sep : Bs} {i : Nat} (h : Lib.index s sep = i) : Lib.cut s sep = (s.take i, s.drop (i + sep.length), true) := by
  unfold Lib.cut
  rw [h, if_pos (by omega), Int.toNat_natCast]
theorem cut3 {a b c : UInt8} (hab : a ≠ b) {p : Bs} (hp : b ∉ p) (r : Bs) : Lib.cut (p ++ [a, b, c] ++ r) [a, b, c] = (p, r, true) := by
  rw [cut_hit (index3 hab hp r)]
  rw [List.append_assoc, List.take_left, ← List.append_assoc, show p.length + [a, b, c].length = (p ++ [a, b, c]).length by simp, List.drop_left]
theorem cut1 {a : UInt8} {p : Bs} (hp : a ∉ p) (r : Bs) : Lib.cut (p ++ a :: r) [a] = (p, r, true) := by
  rw [cut_hit (idx_at hp r), List.take_left]
  have : (p ++ a :: r).drop (p.length + [a].length) = r := by
    rw [show p ++ a :: r = (p ++ [a]) ++ r by simp, show p.length + [a].length = (p ++ [a]).length by simp, List.drop_left]
  rw [this]
theorem cut_true {s sep : Bs} (h : (Lib.cut s sep).2.2 = true) : s = (Lib.cut s sep).1 ++ sep ++ (Lib.cut s sep).2.1 := by
  rcases index_cases s sep with e | ⟨i, e, hi⟩
  · rw [cut_miss e] at h; cases h
  · rw [cut_hit e]
    exact take_mid (index_occ e)
/-! ### Scripts as texts -/
def wordsL : List Bs := [[], [107, 101, 101, 112], [100, 114, 111, 112], [115, 119, 97, 112], [102, 105, 101, 108, 100], [116, 117, 114, 110], [115, 111, 114, 116], [111, 110, 99, 101], [99, 111, 117, 110, 116], [104, 101, 97, 100], [116, 97, 105, 108]]
def verb (k : Int) : Bs := wordsL.getD k.toNat []
def barB : Bs := [32, 124, 32]
def toB : Bs := [32, 62, 32]
def textC (c : Cmd) : Bs := verb c.kind ++ (if c.word ≠ [] then 32 :: c.word else []) ++ (if 0 < c.n then 32 :: Lib.itoa c.n else [])
def textCs (l : List Cmd) : Bs := (l.map fun c => barB ++ textC c).flatten
def textL (x : LineS) : Bs := Lib.join x.frm [32] ++ textCs x.cmds ++ (toB ++ x.to)
def printL (x : LineS) : Bs := textL x ++ [10]
def linesBad : List LineS → Int
  | [] => 0
  | x :: r => if checkLine x ≠ 0 then checkLine x else linesBad r
def checkS (l : List LineS) : Int := if 6 < l.length then 2 else linesBad l
def printS (l : List LineS) : Bs × Int := if checkS l ≠ 0 then ([], checkS l) else ((l.map printL).flatten, 0)
end Gv
end PartS1
section PartS2
/-! Texts read as scripts, in plain words. -/
namespace Gv
open Go Gp
/-- Which verb it is; 0: none. -/
def kindOf (w : Bs) : Nat := if wordsL.tail.idxOf w < 10 then wordsL.tail.idxOf w + 1 else 0
def atoiB (s : Bs) : Option Int := match Lib.atoiAll s with | .ok k => if Lib.itoa k = s then some k else none | _ => none
def parseC (s : Bs) : Option Cmd :=
  let w := Lib.split s [32]
  let k := kindOf (w.getD 0 [])
  if k = 0 then none
  else if k = 1 ∨ k = 2 ∨ k = 3 then (if w.length ≠ 2 then none else some ⟨(k : Int), w.getD 1 [], 0⟩)
  else if k = 4 ∨ k = 9 ∨ k = 10 then (if w.length ≠ 2 then none else match atoiB (w.getD 1 []) with | some n => some ⟨(k : Int), [], n⟩ | none => none)
  else if w.length = 1 then some ⟨(k : Int), [], 0⟩ else none
def parseCs : List Bs → Option (List Cmd)
  | [] => some []
  | p :: r => match parseC p with
    | some c => (match parseCs r with | some l => some (c :: l) | none => none)
    | none => none
def zLine : LineS := ⟨[], [], []⟩
/-- A line of a text: what it is, what is wrong. -/
def lineP (t : Bs) : LineS × Int :=
  if (Lib.cut t toB).2.2 = false then (zLine, 1)
  else match parseCs (Lib.split (Lib.cut t toB).1 barB).tail with
    | none => (zLine, 1)
    | some cs => let x : LineS := ⟨Lib.split ((Lib.split (Lib.cut t toB).1 barB).getD 0 []) [32], cs, (Lib.cut t toB).2.1⟩
      (x, checkLine x)
def parseGo : Nat → Bs → Nat → List LineS → List LineS × Int × Int
  | 0, _, _, l => (l, 0, 0)
  | n + 1, s, i, l =>
    if s = [] then (if checkS l ≠ 0 then ([], 0, checkS l) else (l, 0, 0))
    else if (Lib.cut s [10]).2.2 = false then ([], (i : Int), 1)
    else if (lineP (Lib.cut s [10]).1).2 ≠ 0 then ([], (i : Int), (lineP (Lib.cut s [10]).1).2)
    else parseGo n (Lib.cut s [10]).2.1 (i + 1) (l ++ [(lineP (Lib.cut s [10]).1).1])
def parseS (s : Bs) : List LineS × Int × Int := if 8000 < s.length then ([], 0, 2) else parseGo (s.length + 1) s 0 []
/-! What checked lines are made of. -/
theorem word_of {s : Bs} (h : isWord s = true) : s ≠ [] ∧ s.length ≤ 12 ∧ ∀ c ∈ s, wordByte c = true := by
  unfold isWord at h
  simp only [Bool.and_eq_true, decide_eq_true_eq, List.all_eq_true] at h
  exact ⟨h.1.1, h.1.2, h.2⟩
theorem word_no {s : Bs} (h : isWord s = true) {c : UInt8} (hc : wordByte c = false) : c ∉ s := fun hm => by
  rw [(word_of h).2.2 c hm] at hc; cases hc
theorem line_of {x : LineS} (h : checkLine x = 0) : x.frm ≠ [] ∧ (∀ s ∈ x.frm, isWord s = true) ∧ isWord x.to = true ∧ ∀ c ∈ x.cmds, checkCmd c = 0 := by
  unfold checkLine at h
  split at h
  · cases h
  · rename_i h1
    split at h
    · cases h
    · rename_i h2
      have h2 : (x.frm ++ [x.to]).all isWord = true := by simpa using h2
      rw [List.all_eq_true] at h2
      exact ⟨fun e => h1 (.inl (by rw [e]; rfl)), fun s hs => h2 s (List.mem_append_left _ hs), h2 _ (by simp), firstBad_at h⟩
/-- Bytes of what is printed of commands and words: none of those that stand between. -/
def plainB (c : UInt8) : Bool := c != 10 && c != 124 && c != 62
theorem plain_word {s : Bs} (h : isWord s = true) : ∀ c ∈ s, plainB c = true := fun c hc => by
  have := (word_of h).2.2 c hc
  unfold wordByte at this
  unfold plainB
  simp only [Bool.or_eq_true, Bool.and_eq_true, decide_eq_true_eq, bne_iff_ne, ne_eq] at this ⊢
  refine ⟨⟨fun e => ?_, fun e => ?_⟩, fun e => ?_⟩ <;> subst e <;> revert this <;> decide
end Gv
end PartS2
section PartS3
/-! What is printed is read, and what is read is printed as it was. -/
namespace Gv
open Go Gp
theorem gd2_0 (a b : Bs) : [a, b].getD 0 [] = a := rfl
theorem gd2_1 (a b : Bs) : [a, b].getD 1 [] = b := rfl
theorem gd_0 (a : Bs) (l : List Bs) : (a :: l).getD 0 [] = a := rfl
theorem verb_facts : ∀ k : Nat, 1 ≤ k → k ≤ 10 → kindOf (wordsL.getD k []) = k ∧ (32 : UInt8) ∉ wordsL.getD k [] ∧ ∀ c ∈ wordsL.getD k [], plainB c = true := by
  have h : ∀ k ∈ List.range 11, 1 ≤ k → kindOf (wordsL.getD k []) = k ∧ (32 : UInt8) ∉ wordsL.getD k [] ∧ ∀ c ∈ wordsL.getD k [], plainB c = true := by decide
  exact fun k h1 h2 => h k (List.mem_range.2 (by omega)) h1
theorem itoa_dig {n : Int} (h : 0 ≤ n) {c : UInt8} (hc : c ∈ Lib.itoa n) : 48 ≤ c.toNat ∧ c.toNat ≤ 57 := by
  obtain ⟨k, rfl⟩ : ∃ k : Nat, n = k := ⟨n.toNat, by omega⟩
  rw [Lib.itoa_nonneg] at hc
  have := dec_bytes k c hc
  omega
theorem itoa_plain {n : Int} (h : 0 ≤ n) : (32 : UInt8) ∉ Lib.itoa n ∧ ∀ c ∈ Lib.itoa n, plainB c = true := by
  refine ⟨fun hm => ?_, fun c hc => ?_⟩
  · have := itoa_dig h hm
    revert this; decide
  · have := itoa_dig h hc
    unfold plainB
    simp only [Bool.and_eq_true, bne_iff_ne, ne_eq]
    refine ⟨⟨fun e => ?_, fun e => ?_⟩, fun e => ?_⟩ <;> subst e <;> revert this <;> decide
/-- What a right command looks like. -/
theorem cmd_cases {c : Cmd} (h : checkCmd c = 0) : (∃ k : Nat, 1 ≤ k ∧ k ≤ 3 ∧ ∃ w, isWord w = true ∧ c = ⟨(k : Int), w, 0⟩) ∨ (∃ k : Nat, (k = 4 ∨ k = 9 ∨ k = 10) ∧ ∃ n : Int, 1 ≤ n ∧ n ≤ 1000 ∧ c = ⟨(k : Int), [], n⟩) ∨ ∃ k : Nat, 5 ≤ k ∧ k ≤ 8 ∧ c = ⟨(k : Int), [], 0⟩ := by
  obtain ⟨kind, word, n⟩ := c
  unfold checkCmd at h
  dsimp only at h
  split at h
  · cases h
  · rename_i h1
    split at h
    · cases h
    · rename_i h2
      split at h
      · cases h
      · rename_i h3
        split at h
        · cases h
        · rename_i h4
          obtain ⟨k, rfl⟩ : ∃ k : Nat, kind = k := ⟨kind.toNat, by omega⟩
          unfold useWord useN at *
          simp only [Bool.or_eq_true, Bool.or_eq_false_iff, decide_eq_true_eq, decide_eq_false_iff_not] at *
          rcases Nat.lt_or_ge k 4 with h5 | h5
          · refine .inl ⟨k, by omega, by omega, word, ?_, ?_⟩
            · cases hw : isWord word with
              | true => rfl
              | false => exact absurd (.inl ⟨by omega, hw⟩) h4
            · have : n = 0 := Decidable.byContradiction fun hn => h2 (.inr ⟨by omega, hn⟩)
              rw [this]
          · have hw : word = [] := Decidable.byContradiction fun hn => h2 (.inl ⟨by omega, hn⟩)
            subst hw
            by_cases h6 : k = 4 ∨ k = 9 ∨ k = 10
            · refine .inr (.inl ⟨k, h6, n, ?_, ?_, rfl⟩)
              · exact Decidable.byContradiction fun hn => h3 ⟨by omega, .inl (by omega)⟩
              · exact Decidable.byContradiction fun hn => h3 ⟨by omega, .inr (by omega)⟩
            · have : n = 0 := Decidable.byContradiction fun hn => h2 (.inr ⟨by omega, hn⟩)
              subst this
              exact .inr (.inr ⟨k, by omega, by omega, rfl⟩)
theorem verb_nat (k : Nat) : verb (k : Int) = wordsL.getD k [] := by unfold verb; rw [Int.toNat_natCast]
theorem textC_word (k : Nat) {w : Bs} (hw : w ≠ []) : textC ⟨(k : Int), w, 0⟩ = wordsL.getD k [] ++ 32 :: w := by
  unfold textC
  rw [verb_nat, if_pos hw]
  simp
theorem textC_n (k : Nat) {n : Int} (hn : 1 ≤ n) : textC ⟨(k : Int), [], n⟩ = wordsL.getD k [] ++ 32 :: Lib.itoa n := by
  unfold textC
  rw [verb_nat, if_neg (by simp), if_pos (by show 0 < n; omega)]
  simp
theorem textC_0 (k : Nat) : textC ⟨(k : Int), [], 0⟩ = wordsL.getD k [] := by
  unfold textC
  rw [verb_nat]
  simp
theorem split_two {a b : Bs} (ha : (32 : UInt8) ∉ a) (hb : (32 : UInt8) ∉ b) : Lib.split (a ++ 32 :: b) [32] = [a, b] := by
  rw [split_at ha, split_no hb]
theorem parse_text {c : Cmd} (h : checkCmd c = 0) : parseC (textC c) = some c := by
  rcases cmd_cases h with ⟨k, k1, k2, w, hw, rfl⟩ | ⟨k, hk, n, n1, n2, rfl⟩ | ⟨k, k1, k2, rfl⟩
  · obtain ⟨v1, v2, v3⟩ := verb_facts k k1 (by omega)
    rw [textC_word k (word_of hw).1]
    unfold parseC
    rw [split_two v2 (word_no hw (by decide))]
    simp only [gd2_0, gd2_1]
    simp only [v1]
    rw [if_neg (by omega), if_pos (by omega)]
    rfl
  · obtain ⟨v1, v2, v3⟩ := verb_facts k (by omega) (by omega)
    rw [textC_n k n1]
    unfold parseC
    rw [split_two v2 (itoa_plain (by omega)).1]
    simp only [gd2_0, gd2_1]
    simp only [v1]
    rw [if_neg (by omega), if_neg (by omega), if_pos hk]
    have ha : atoiB (Lib.itoa n) = some n := by
      obtain ⟨j, rfl⟩ : ∃ j : Nat, n = j := ⟨n.toNat, by omega⟩
      unfold atoiB
      rw [atoi_itoa (by omega)]
      simp
    rw [ha]
    rfl
  · obtain ⟨v1, v2, v3⟩ := verb_facts k (by omega) (by omega)
    rw [textC_0 k]
    unfold parseC
    rw [split_no v2]
    simp only [gd_0]
    simp only [v1]
    rw [if_neg (by omega), if_neg (by omega), if_neg (by omega)]
    rfl
theorem plain_text {c : Cmd} (h : checkCmd c = 0) : ∀ b ∈ textC c, plainB b = true := by
  have sp : plainB 32 = true := by decide
  rcases cmd_cases h with ⟨k, k1, k2, w, hw, rfl⟩ | ⟨k, hk, n, n1, n2, rfl⟩ | ⟨k, k1, k2, rfl⟩
  · obtain ⟨v1, v2, v3⟩ := verb_facts k k1 (by omega)
    rw [textC_word k (word_of hw).1]
    intro b hb
    rcases List.mem_append.1 hb with hb | hb
    · exact v3 b hb
    · rcases List.mem_cons.1 hb with rfl | hb
      · exact sp
      · exact plain_word hw b hb
  · obtain ⟨v1, v2, v3⟩ := verb_facts k (by omega) (by omega)
    rw [textC_n k n1]
    intro b hb
    rcases List.mem_append.1 hb with hb | hb
    · exact v3 b hb
    · rcases List.mem_cons.1 hb with rfl | hb
      · exact sp
      · exact (itoa_plain (by omega)).2 b hb
  · obtain ⟨v1, v2, v3⟩ := verb_facts k (by omega) (by omega)
    rw [textC_0 k]
    exact v3
theorem atoi_back {s : Bs} {n : Int} (h : atoiB s = some n) : Lib.itoa n = s := by
  unfold atoiB at h
  split at h
  · split at h
    · rename_i h1
      cases h
      exact h1
    · cases h
  · cases h
theorem kindOf_back {w : Bs} {k : Nat} (h : kindOf w = k) (hk : k ≠ 0) : wordsL.getD k [] = w ∧ k ≤ 10 := by
  unfold kindOf at h
  split at h
  · rename_i h1
    subst h
    have hl : wordsL.tail.idxOf w < wordsL.tail.length := h1
    have h2 := List.getElem_idxOf hl
    refine ⟨?_, by omega⟩
    have e : wordsL.getD (wordsL.tail.idxOf w + 1) [] = wordsL.tail.getD (wordsL.tail.idxOf w) [] := rfl
    rw [e, List.getD_eq_getElem?_getD, List.getElem?_eq_getElem hl, h2]
    rfl
  · exact absurd h.symm hk
theorem two_list {l : List Bs} (h : l.length = 2) : l = [l.getD 0 [], l.getD 1 []] := by
  match l, h with
  | [a, b], _ => rfl
theorem one_list' {l : List Bs} (h : l.length = 1) : l = [l.getD 0 []] := by
  match l, h with
  | [a], _ => rfl
theorem parse_back {p : Bs} {c : Cmd} (h : parseC p = some c) (hc : checkCmd c = 0) : p = textC c := by
  have hj := join_split (sep := [32]) (by simp) p.length p (Nat.le_refl _)
  unfold parseC at h
  dsimp only at h
  split at h
  · cases h
  · rename_i hk
    obtain ⟨k1, k2⟩ := kindOf_back rfl hk
    split at h
    · rename_i h3
      split at h
      · cases h
      · rename_i hl
        have hl := Decidable.not_not.1 hl
        cases h
        have hw : (Lib.split p [32]).getD 1 [] ≠ [] := by
          rcases cmd_cases hc with ⟨k, a1, a2, w, hw, e⟩ | ⟨k, hk, n, n1, n2, e⟩ | ⟨k, a1, a2, e⟩
          · have := congrArg Cmd.word e
            dsimp only at this
            rw [this]; exact (word_of hw).1
          · have := congrArg Cmd.kind e
            dsimp only at this
            omega
          · have := congrArg Cmd.kind e
            dsimp only at this
            omega
        rw [textC_word _ hw, k1]
        rw [two_list hl, join_cons _ (by simp), join_one] at hj
        refine hj.symm.trans ?_
        rw [List.append_assoc]
        rfl
    · split at h
      · rename_i h3
        split at h
        · cases h
        · rename_i hl
          have hl := Decidable.not_not.1 hl
          split at h
          · rename_i n hn
            cases h
            have hn1 : 1 ≤ n := by
              rcases cmd_cases hc with ⟨k, a1, a2, w, hw, e⟩ | ⟨k, hk, n', n1, n2, e⟩ | ⟨k, a1, a2, e⟩
              · have := congrArg Cmd.kind e
                dsimp only at this
                omega
              · have := congrArg Cmd.n e
                dsimp only at this
                omega
              · have := congrArg Cmd.kind e
                dsimp only at this
                omega
            rw [textC_n _ hn1, k1, atoi_back hn]
            rw [two_list hl, join_cons _ (by simp), join_one] at hj
            refine hj.symm.trans ?_
            rw [List.append_assoc]
            rfl
          · cases h
      · split at h
        · rename_i hl
          cases h
          rw [textC_0, k1]
          rw [one_list' hl, join_one] at hj
          exact hj.symm
        · cases h
theorem parseCs_text : ∀ {l : List Cmd}, (∀ c ∈ l, checkCmd c = 0) → parseCs (l.map textC) = some l
  | [], _ => rfl
  | c :: r, h => by
    rw [List.map_cons, parseCs, parse_text (h c (by simp)), parseCs_text fun x hx => h x (List.mem_cons_of_mem _ hx)]
theorem parseCs_back : ∀ {ps : List Bs} {l : List Cmd}, parseCs ps = some l → (∀ c ∈ l, checkCmd c = 0) → ps = l.map textC
  | [], l, h, _ => by
    simp only [parseCs, Option.some.injEq] at h
    subst h; rfl
  | p :: r, l, h, hc => by
    rw [parseCs] at h
    split at h
    · rename_i c h1
      split at h
      · rename_i l' h2
        cases h
        rw [List.map_cons, ← parse_back h1 (hc c (by simp)), ← parseCs_back h2 fun x hx => hc x (List.mem_cons_of_mem _ hx)]
      · cases h
    · cases h
theorem body_join (a : Bs) : ∀ l : List Cmd, Lib.join (a :: l.map textC) barB = a ++ textCs l
  | [] => by rw [List.map_nil, join_one]; simp [textCs]
  | c :: r => by
    rw [List.map_cons, join_cons _ (by simp), body_join (textC c) r]
    simp [textCs]
theorem plain_join : ∀ {l : List Bs}, (∀ s ∈ l, isWord s = true) → ∀ b ∈ Lib.join l [32], plainB b = true
  | [], _ => by intro b hb; simp [Lib.join, List.intercalate] at hb
  | [s], h => by rw [join_one]; exact plain_word (h s (by simp))
  | s :: t :: r, h => by
    rw [join_cons _ (by simp)]
    intro b hb
    rcases List.mem_append.1 hb with hb | hb
    · rcases List.mem_append.1 hb with hb | hb
      · exact plain_word (h s (by simp)) b hb
      · have : b = 32 := by simpa using hb
        rw [this]; decide
    · exact plain_join (fun x hx => h x (List.mem_cons_of_mem _ hx)) b hb
theorem not_in {l : Bs} (h : ∀ b ∈ l, plainB b = true) : (10 : UInt8) ∉ l ∧ (124 : UInt8) ∉ l ∧ (62 : UInt8) ∉ l :=
  ⟨fun hm => by have := h _ hm; revert this; decide, fun hm => by have := h _ hm; revert this; decide, fun hm => by have := h _ hm; revert this; decide⟩
theorem body_no {l : List Cmd} (h : ∀ c ∈ l, checkCmd c = 0) : (10 : UInt8) ∉ textCs l ∧ (62 : UInt8) ∉ textCs l := by
  have hb : ∀ c ∈ l, (10 : UInt8) ∉ barB ++ textC c ∧ (62 : UInt8) ∉ barB ++ textC c := fun c hc => by
    have := not_in (plain_text (h c hc))
    refine ⟨fun hm => ?_, fun hm => ?_⟩
    · rcases List.mem_append.1 hm with hm | hm
      · revert hm; decide
      · exact this.1 hm
    · rcases List.mem_append.1 hm with hm | hm
      · revert hm; decide
      · exact this.2.2 hm
  unfold textCs
  refine ⟨fun hm => ?_, fun hm => ?_⟩
  · obtain ⟨x, hx, hm⟩ := List.mem_flatten.1 hm
    obtain ⟨c, hc, rfl⟩ := List.mem_map.1 hx
    exact (hb c hc).1 hm
  · obtain ⟨x, hx, hm⟩ := List.mem_flatten.1 hm
    obtain ⟨c, hc, rfl⟩ := List.mem_map.1 hx
    exact (hb c hc).2 hm
theorem line_text {x : LineS} (h : checkLine x = 0) : lineP (textL x) = (x, 0) ∧ (10 : UInt8) ∉ textL x := by
  obtain ⟨h1, h2, h3, h4⟩ := line_of h
  have hj := not_in (plain_join h2)
  have hb := body_no h4
  have hno : (62 : UInt8) ∉ Lib.join x.frm [32] ++ textCs x.cmds := fun hm => by
    rcases List.mem_append.1 hm with hm | hm
    · exact hj.2.2 hm
    · exact hb.2 hm
  have hcut : Lib.cut (textL x) toB = (Lib.join x.frm [32] ++ textCs x.cmds, x.to, true) := by
    unfold textL
    rw [← List.append_assoc]
    exact cut3 (by decide) hno x.to
  have hsp : Lib.split (Lib.join x.frm [32] ++ textCs x.cmds) barB = Lib.join x.frm [32] :: x.cmds.map textC := by
    rw [← body_join]
    refine split_join3 (by decide) _ (by simp) fun p hp => ?_
    rcases List.mem_cons.1 hp with rfl | hp
    · exact hj.2.1
    · obtain ⟨c, hc, rfl⟩ := List.mem_map.1 hp
      exact (not_in (plain_text (h4 c hc))).2.1
  refine ⟨?_, fun hm => ?_⟩
  · unfold lineP
    rw [hcut]
    dsimp only
    rw [if_neg (by decide), hsp, List.tail_cons, parseCs_text h4]
    simp only [gd_0]
    rw [split_join1 _ h1 fun p hp => word_no (h2 p hp) (by decide)]
    obtain ⟨a, b, c⟩ := x
    dsimp only
    rw [h]
  · unfold textL at hm
    rcases List.mem_append.1 hm with hm | hm
    · rcases List.mem_append.1 hm with hm | hm
      · exact hj.1 hm
      · exact hb.1 hm
    · rcases List.mem_append.1 hm with hm | hm
      · revert hm; decide
      · exact (not_in (plain_word h3)).1 hm
theorem line_back {t : Bs} {x : LineS} (h : lineP t = (x, 0)) : t = textL x ∧ checkLine x = 0 := by
  unfold lineP at h
  split at h
  · cases h
  · rename_i h1
    have h1 : (Lib.cut t toB).2.2 = true := by simpa using h1
    split at h
    · cases h
    · rename_i cs hcs
      simp only [Prod.mk.injEq] at h
      obtain ⟨hx, h0⟩ := h
      rw [hx] at h0
      refine ⟨?_, h0⟩
      have hf := (line_of h0).2.2.2
      have e1 : x.cmds = cs := by rw [← hx]
      have e2 : x.to = (Lib.cut t toB).2.1 := by rw [← hx]
      have e3 : x.frm = Lib.split ((Lib.split (Lib.cut t toB).1 barB).getD 0 []) [32] := by rw [← hx]
      rw [e1] at hf
      have hps := parseCs_back hcs hf
      have hb := join_split (sep := barB) (by decide) _ (Lib.cut t toB).1 (Nat.le_refl _)
      have hne := split_ne (Lib.cut t toB).1 barB
      have hsp : Lib.split (Lib.cut t toB).1 barB = (Lib.split (Lib.cut t toB).1 barB).getD 0 [] :: cs.map textC := by
        rw [← hps]
        cases he : Lib.split (Lib.cut t toB).1 barB with
        | nil => exact absurd he hne
        | cons a r => rfl
      rw [hsp, body_join] at hb
      have hfr := join_split (sep := [32]) (by decide) _ ((Lib.split (Lib.cut t toB).1 barB).getD 0 []) (Nat.le_refl _)
      rw [← e3] at hfr
      unfold textL
      rw [e1, e2, hfr, hb, ← List.append_assoc]
      exact cut_true h1
theorem linesBad_app : ∀ {a b : List LineS}, linesBad (a ++ b) = 0 ↔ linesBad a = 0 ∧ linesBad b = 0
  | [], b => by simp [linesBad]
  | x :: r, b => by
    rw [List.cons_append, linesBad, linesBad]
    by_cases h : checkLine x ≠ 0
    · rw [if_pos h, if_pos h]
      simp [h]
    · rw [if_neg h, if_neg h]
      exact linesBad_app
theorem linesBad_at : ∀ {l : List LineS}, linesBad l = 0 ↔ ∀ x ∈ l, checkLine x = 0
  | [] => by simp [linesBad]
  | x :: r => by
    rw [linesBad]
    by_cases h : checkLine x ≠ 0
    · rw [if_pos h]
      constructor
      · intro h2; exact absurd h2 h
      · intro h2; exact absurd (h2 x (by simp)) h
    · rw [if_neg h, linesBad_at]
      have h := Decidable.not_not.1 h
      constructor
      · intro h2 y hy
        rcases List.mem_cons.1 hy with rfl | hy
        · exact h
        · exact h2 y hy
      · intro h2 y hy
        exact h2 y (List.mem_cons_of_mem _ hy)
theorem checkS_of {l : List LineS} (h : checkS l = 0) : l.length ≤ 6 ∧ ∀ x ∈ l, checkLine x = 0 := by
  unfold checkS at h
  split at h
  · cases h
  · exact ⟨by omega, linesBad_at.1 h⟩
theorem checkS_ok {l : List LineS} (h : l.length ≤ 6) (h2 : ∀ x ∈ l, checkLine x = 0) : checkS l = 0 := by
  unfold checkS
  rw [if_neg (by omega)]
  exact linesBad_at.2 h2
theorem parse_print : ∀ (r : List LineS) (acc : List LineS) (n i : Nat), (r.map printL).flatten.length < n → checkS (acc ++ r) = 0 → parseGo n (r.map printL).flatten i acc = (acc ++ r, 0, 0)
  | [], acc, n, i, h, hc => by
    obtain ⟨n, rfl⟩ : ∃ n', n = n' + 1 := ⟨n - 1, by omega⟩
    rw [List.append_nil] at hc
    unfold parseGo
    simp [hc]
  | x :: r, acc, n, i, h, hc => by
    obtain ⟨n, rfl⟩ : ∃ n', n = n' + 1 := ⟨n - 1, by omega⟩
    obtain ⟨a1, a2⟩ := line_text ((checkS_of hc).2 x (by simp))
    have e : ((x :: r).map printL).flatten = textL x ++ 10 :: (r.map printL).flatten := by simp [printL]
    rw [e] at h ⊢
    unfold parseGo
    rw [if_neg (by simp), cut1 a2]
    dsimp only
    rw [if_neg (by decide), a1]
    dsimp only
    rw [if_neg (by decide)]
    have := parse_print r (acc ++ [x]) n (i + 1) (by rw [List.length_append, List.length_cons] at h; omega) (by rw [List.append_assoc]; exact hc)
    rw [this, List.append_assoc]
    rfl
theorem parse_read : ∀ (n : Nat) (s : Bs) (i : Nat) (acc l : List LineS) (a : Int), s.length < n → parseGo n s i acc = (l, a, 0) → ∃ r, l = acc ++ r ∧ s = (r.map printL).flatten ∧ checkS l = 0
  | 0, s, i, acc, l, a, h, _ => by omega
  | n + 1, s, i, acc, l, a, h, hp => by
    unfold parseGo at hp
    split at hp
    · rename_i h1
      split at hp
      · rename_i h2
        simp only [Prod.mk.injEq] at hp
        exact absurd hp.2.2 h2
      · rename_i h2
        simp only [Prod.mk.injEq] at hp
        refine ⟨[], ?_, ?_, ?_⟩
        · rw [List.append_nil]; exact hp.1.symm
        · rw [h1]; rfl
        · rw [← hp.1]; exact Decidable.not_not.1 h2
    · rename_i h1
      split at hp
      · simp at hp
      · rename_i h2
        have h2 : (Lib.cut s [10]).2.2 = true := by simpa using h2
        split at hp
        · rename_i h3
          simp only [Prod.mk.injEq] at hp
          exact absurd hp.2.2 h3
        · rename_i h3
          have h3 := Decidable.not_not.1 h3
          have hs := cut_true h2
          have hl := congrArg List.length hs
          simp only [List.length_append, List.length_cons, List.length_nil] at hl
          obtain ⟨r, b1, b2, b3⟩ := parse_read n _ _ _ _ _ (by omega) hp
          obtain ⟨c1, c2⟩ := line_back (t := (Lib.cut s [10]).1) (x := (lineP (Lib.cut s [10]).1).1) (by rw [← h3])
          refine ⟨(lineP (Lib.cut s [10]).1).1 :: r, ?_, ?_, b3⟩
          · rw [b1, List.append_assoc]; rfl
          · rw [List.map_cons, List.flatten_cons, ← b2]
            unfold printL
            rw [← c1]
            exact hs
theorem printS_ok {l : List LineS} (h : checkS l = 0) : printS l = ((l.map printL).flatten, 0) := by
  unfold printS
  rw [if_neg (by rw [h]; decide)]
/-- What is printed is read. -/
theorem script_back {l : List LineS} (h : checkS l = 0) (h8 : (l.map printL).flatten.length ≤ 8000) : parseS (l.map printL).flatten = (l, 0, 0) := by
  unfold parseS
  rw [if_neg (by omega), parse_print l [] _ 0 (by omega) h]
  rfl
theorem script_read {s : Bs} {l : List LineS} {a : Int} (h : parseS s = (l, a, 0)) : checkS l = 0 ∧ (l.map printL).flatten = s := by
  unfold parseS at h
  split at h
  · simp at h
  · obtain ⟨r, b1, b2, b3⟩ := parse_read _ s 0 [] l a (by omega) h
    rw [List.nil_append] at b1
    subst b1
    exact ⟨b3, b2.symm⟩
theorem script_inj {l m : List LineS} (hl : checkS l = 0) (hm : checkS m = 0) (h : (l.map printL).flatten = (m.map printL).flatten) : l = m := by
  have h1 := parse_print l [] ((l.map printL).flatten.length + 1) 0 (by omega) hl
  have h2 := parse_print m [] ((l.map printL).flatten.length + 1) 0 (by rw [h]; omega) hm
  rw [← h, h1] at h2
  simpa using congrArg (fun x => x.1) h2
end Gv
end PartS3
section PartS4
/-! How long is what is printed. -/
namespace Gv
open Go Gp
theorem join_le : ∀ {l : List Bs}, (∀ s ∈ l, isWord s = true) → (Lib.join l [32]).length ≤ 13 * l.length
  | [], _ => by simp [Lib.join, List.intercalate]
  | [a], h => by rw [join_one]; have := (word_of (h a (by simp))).2.1; simp; omega
  | a :: b :: r, h => by
    rw [join_cons a (by simp)]
    have h1 := (word_of (h a (by simp))).2.1
    have h2 := join_le (l := b :: r) fun s hs => h s (by simp [hs])
    simp only [List.length_append, List.length_cons, List.length_nil] at h2 ⊢
    omega
theorem join_ne {l : List Bs} (hl : l ≠ []) (h : ∀ s ∈ l, isWord s = true) : Lib.join l [32] ≠ [] := by
  match l, hl with
  | [a], _ => rw [join_one]; exact (word_of (h a (by simp))).1
  | a :: b :: r, _ => rw [join_cons a (by simp)]; simp
/-- A command, as it is printed. -/
theorem cmd_print {c : Cmd} (h : checkCmd c = 0) : ∃ k : Nat, c.kind = (k : Int) ∧ k < 11 ∧ (wordsL.map V.str)[k]? = some (.str (verb c.kind)) ∧ (verb c.kind).length ≤ 5 ∧ c.word.length ≤ 12 ∧ c.n ≤ 1000 := by
  have key : ∀ k : Nat, k < 11 → (wordsL.map V.str)[k]? = some (.str (verb (k : Int))) ∧ (verb (k : Int)).length ≤ 5 := by
    intro k hk
    rw [verb_nat, List.getElem?_map]
    have : ∀ k, k < 11 → wordsL[k]? = some (wordsL.getD k []) ∧ (wordsL.getD k []).length ≤ 5 := by decide
    rw [(this k hk).1]
    exact ⟨rfl, (this k hk).2⟩
  rcases cmd_cases h with ⟨k, h1, h2, w, hw, rfl⟩ | ⟨k, h1, n, h2, h3, rfl⟩ | ⟨k, h1, h2, rfl⟩
  · exact ⟨k, rfl, by omega, (key k (by omega)).1, (key k (by omega)).2, (word_of hw).2.1, by simp⟩
  · exact ⟨k, rfl, by omega, (key k (by omega)).1, (key k (by omega)).2, by simp, h3⟩
  · exact ⟨k, rfl, by omega, (key k (by omega)).1, (key k (by omega)).2, by simp, by simp⟩
theorem line_facts {x : LineS} (h : checkLine x = 0) : 1 ≤ x.frm.length ∧ x.frm.length ≤ 4 ∧ x.cmds.length ≤ 6 ∧ (Lib.join x.frm [32]).length ≤ 52 ∧ Lib.join x.frm [32] ≠ [] ∧ x.to.length ≤ 12 ∧ ∀ c ∈ x.cmds, checkCmd c = 0 := by
  obtain ⟨h1, h2, h3, h4⟩ := line_of h
  have h5 : ¬ (x.frm.length = 0 ∨ 4 < x.frm.length ∨ 6 < x.cmds.length) := fun e => by
    unfold checkLine at h
    rw [if_pos e] at h
    cases h
  have h6 := join_le h2
  exact ⟨by omega, by omega, by omega, by omega, join_ne h1 h2, (word_of h3).2.1, h4⟩
theorem itoa_le {n : Int} (h : 0 < n) (h2 : n ≤ 1000) : (Lib.itoa n).length ≤ 24 := itoa_len n (by omega)
theorem textCs_take (l : List Cmd) (j : Nat) (h : j < l.length) : textCs (l.take (j + 1)) = textCs (l.take j) ++ (barB ++ textC l[j]) := by
  unfold textCs
  rw [List.take_succ_eq_append_getElem h, List.map_append, List.flatten_append]
  simp only [List.map_cons, List.map_nil, List.flatten_cons, List.flatten_nil, List.append_nil]
theorem flat_take (l : List LineS) (j : Nat) (h : j < l.length) : ((l.take (j + 1)).map printL).flatten = ((l.take j).map printL).flatten ++ printL l[j] := by
  rw [List.take_succ_eq_append_getElem h, List.map_append, List.flatten_append]
  simp only [List.map_cons, List.map_nil, List.flatten_cons, List.flatten_nil, List.append_nil]
/-- The rows of a builder that holds d. -/
def bldC : Bs → List V
  | [] => [.raw (.pointer none), .nil]
  | _ :: _ => [.ptr 0 0 0, .own 1]
def bldB (E : Nat) : Bs → Row
  | [] => .dead
  | c :: r => .byt E (c :: r)
theorem split_parts {sep : Bs} (hs : sep ≠ []) : ∀ (n : Nat) (s : Bs), s.length ≤ n → Lib.split s sep ≠ [] ∧ ∀ x ∈ Lib.split s sep, x.length ≤ s.length
  | n, s, hn => by
    rcases index_cases s sep with h | ⟨i, h, hi⟩
    · rw [split_miss h]
      exact ⟨by simp, fun x hx => by simp at hx; subst hx; exact Nat.le_refl _⟩
    · rw [split_hit hs h hi]
      refine ⟨by simp, fun x hx => ?_⟩
      have hsp : 0 < sep.length := List.length_pos_iff.2 hs
      rcases List.mem_cons.1 hx with rfl | hx
      · simp; omega
      · match n, hn with
        | 0, hn => omega
        | n + 1, hn =>
          have := (split_parts hs n (s.drop (i + sep.length)) (by simp; omega)).2 x hx
          simp at this
          omega
theorem splitS_ne (s : Bs) {sep : Bs} (hs : sep ≠ []) : Lib.split s sep ≠ [] := (split_parts hs _ s (Nat.le_refl _)).1
theorem splitS_le (s : Bs) {sep : Bs} (hs : sep ≠ []) : ∀ x ∈ Lib.split s sep, x.length ≤ s.length := (split_parts hs _ s (Nat.le_refl _)).2
theorem kindOf_le (w : Bs) : kindOf w ≤ 10 := by unfold kindOf; split <;> omega
theorem kindOf_idx (w : Bs) : (if wordsL.tail.idxOf w < wordsL.tail.length then (wordsL.tail.idxOf w : Int) else -1) + 1 = (kindOf w : Int) := by
  unfold kindOf
  rw [show wordsL.tail.length = 10 from rfl]
  split <;> simp
end Gv
end PartS4
section PartS5
/-! Steps of a parse. -/
namespace Gv
open Go Gp
theorem parseCs_app : ∀ (a : List Bs) (p : Bs) (cs : List Cmd), parseCs a = some cs → parseCs (a ++ [p]) = match parseC p with | some c => some (cs ++ [c]) | none => none
  | [], p, cs, h => by
    obtain rfl : [] = cs := by simpa [parseCs] using h
    simp only [List.nil_append, parseCs]
    all_goals cases parseC p <;> rfl
  | q :: r, p, cs, h => by
    unfold parseCs at h
    rw [List.cons_append]
    unfold parseCs
    cases hq : parseC q with
    | none => rw [hq] at h; cases h
    | some c =>
      rw [hq] at h
      dsimp only at h ⊢
      cases hr : parseCs r with
      | none => rw [hr] at h; cases h
      | some l =>
        rw [hr] at h
        dsimp only at h
        cases h
        rw [parseCs_app r p l hr]
        cases parseC p <;> rfl
theorem parseCs_none : ∀ (a b : List Bs) (p : Bs), parseC p = none → parseCs (a ++ p :: b) = none
  | [], b, p, h => by simp only [List.nil_append, parseCs, h]
  | q :: r, b, p, h => by
    rw [List.cons_append]
    unfold parseCs
    rw [parseCs_none r b p h]
    cases parseC q <;> rfl
theorem parseCs_step {l : List Bs} {j : Nat} {cs : List Cmd} (hj : j < l.length) (h : parseCs (l.take j) = some cs) : (parseC l[j] = none → parseCs l = none) ∧ ∀ c, parseC l[j] = some c → parseCs (l.take (j + 1)) = some (cs ++ [c]) := by
  refine ⟨fun h1 => ?_, fun c h1 => ?_⟩
  · have := parseCs_none (l.take j) (l.drop (j + 1)) l[j] h1
    rwa [List.getElem_cons_drop, List.take_append_drop] at this
  · rw [List.take_succ_eq_append_getElem hj, parseCs_app _ _ _ h, h1]
theorem parseGo_end {n i : Nat} {l : List LineS} : parseGo (n + 1) [] i l = if checkS l ≠ 0 then ([], 0, checkS l) else (l, 0, 0) := by
  rw [parseGo, if_pos rfl]
theorem parseGo_step {n i : Nat} {s : Bs} {l : List LineS} (h : s ≠ []) : parseGo (n + 1) s i l = if (Lib.cut s [10]).2.2 = false then ([], (i : Int), 1)
    else if (lineP (Lib.cut s [10]).1).2 ≠ 0 then ([], (i : Int), (lineP (Lib.cut s [10]).1).2)
    else parseGo n (Lib.cut s [10]).2.1 (i + 1) (l ++ [(lineP (Lib.cut s [10]).1).1]) := by
  rw [parseGo, if_neg h]
theorem cutB_le (s sep : Bs) : (Lib.cut s sep).1.length ≤ s.length ∧ (Lib.cut s sep).2.1.length ≤ s.length := by
  rcases index_cases s sep with h | ⟨i, h, hi⟩
  · rw [cut_miss h]; simp
  · rw [cut_hit h]
    exact ⟨by simp; omega, by simp⟩
theorem lineP_to {t : Bs} (h : (Lib.cut t toB).2.2 = false) : lineP t = (zLine, 1) := by unfold lineP; rw [if_pos h]
theorem lineP_none {t : Bs} (h : (Lib.cut t toB).2.2 = true) (h2 : parseCs (Lib.split (Lib.cut t toB).1 barB).tail = none) : lineP t = (zLine, 1) := by unfold lineP; rw [if_neg (by rw [h]; decide), h2]
theorem lineP_some {t : Bs} {cs : List Cmd} (h : (Lib.cut t toB).2.2 = true) (h2 : parseCs (Lib.split (Lib.cut t toB).1 barB).tail = some cs) {p0 : Bs} {pr : List Bs} (h3 : Lib.split (Lib.cut t toB).1 barB = p0 :: pr) :
    lineP t = (⟨Lib.split p0 [32], cs, (Lib.cut t toB).2.1⟩, checkLine ⟨Lib.split p0 [32], cs, (Lib.cut t toB).2.1⟩) := by
  unfold lineP
  rw [if_neg (by rw [h]; decide), h2, h3]
  rfl
theorem split_count {sep : Bs} (hs : sep ≠ []) : ∀ (n : Nat) (s : Bs), s.length ≤ n → (Lib.split s sep).length ≤ s.length + 1
  | n, s, hn => by
    rcases index_cases s sep with h | ⟨i, h, hi⟩
    · rw [split_miss h]; simp
    · rw [split_hit hs h hi]
      have hsp : 0 < sep.length := List.length_pos_iff.2 hs
      match n, hn with
      | 0, hn => omega
      | n + 1, hn =>
        have := split_count hs n (s.drop (i + sep.length)) (by simp; omega)
        simp at this ⊢
        omega
end Gv
end PartS5
section PartS6
/-! How long printed scripts are. -/
namespace Gv
open Go Gp
theorem textC_le {c : Cmd} (h : checkCmd c = 0) : (textC c).length ≤ 50 := by
  obtain ⟨k, h1, h2, h3, h4, h5, h6⟩ := cmd_print h
  unfold textC
  simp only [List.length_append]
  have a1 : (if c.word ≠ [] then 32 :: c.word else []).length ≤ 13 := by
    split
    · simp; omega
    · simp
  have a2 : (if 0 < c.n then 32 :: Lib.itoa c.n else []).length ≤ 25 := by
    split
    · rename_i hn
      have := itoa_le hn h6
      simp; omega
    · simp
  omega
theorem textCs_le : ∀ {l : List Cmd}, (∀ c ∈ l, checkCmd c = 0) → (textCs l).length ≤ 53 * l.length
  | [], _ => by simp [textCs]
  | c :: r, h => by
    have h1 := textC_le (h c (by simp))
    have h2 := textCs_le (l := r) fun c hc => h c (by simp [hc])
    unfold textCs at h2 ⊢
    simp only [List.map_cons, List.flatten_cons, List.length_append, List.length_cons] at h2 ⊢
    have : barB.length = 3 := rfl
    omega
theorem printL_le {x : LineS} (h : checkLine x = 0) : (printL x).length ≤ 1000 := by
  obtain ⟨h1, h2, h3, h4, h5, h6, h7⟩ := line_facts h
  have := textCs_le h7
  unfold printL textL
  simp only [List.length_append, List.length_cons, List.length_nil]
  have : toB.length = 3 := rfl
  omega
theorem flat_le : ∀ {l : List LineS}, (∀ x ∈ l, checkLine x = 0) → ((l.map printL).flatten).length ≤ 1000 * l.length
  | [], _ => by simp
  | x :: r, h => by
    have h1 := printL_le (h x (by simp))
    have h2 := flat_le (l := r) fun c hc => h c (by simp [hc])
    simp only [List.map_cons, List.flatten_cons, List.length_append, List.length_cons] at h2 ⊢
    omega
end Gv
end PartS6
section PartBld
/-! Rows of bytes that know what they are made of, and what is put behind them. -/
namespace Gv
open Go Go.RowKit Gw Gp
variable [Glob]
section
variable {w0 : Start} {w w' : World} {m0 R m : Mem} {q : Loc} {rows : Rows} {P : Program}
theorem byt_cells {m : Mem} {l : List UInt8} {arr : Array Value} (h : ElsR m 1 (l.map byteV) arr) (i : Nat) (x : UInt8) (hx : l[i]? = some x) : arr[i]? = some (.int .u8 (x.toNat : Int)) := by
  obtain ⟨_, h2⟩ := h i (byteV x) (by rw [List.getElem?_map, hx]; rfl)
  obtain ⟨u, g1, _, g3⟩ := h2 0 (byteV x) rfl
  have : u = .int .u8 (x.toNat : Int) := by
    unfold byteV at g3
    cases g3; rfl
  rw [← this]; simpa using g1
theorem byt_els {m : Mem} {l : List UInt8} {arr : Array Value} (h : ∀ (i : Nat) x, l[i]? = some x → arr[i]? = some (.int .u8 (x.toNat : Int))) : ElsR m 1 (l.map byteV) arr := fun i y hy => by
  rw [List.getElem?_map] at hy
  obtain ⟨x, hx, rfl⟩ := Option.map_eq_some_iff.1 hy
  refine ⟨rfl, fun j v hv => ?_⟩
  have hj : j = 0 := by
    rcases Nat.eq_zero_or_pos j with h | h
    · exact h
    · rw [List.getElem?_eq_none (by simp [byteV, V.cells]; omega)] at hv; cases hv
  subst hj
  obtain rfl : byteV x = v := by simpa [byteV, V.cells] using hv
  exact ⟨_, by simpa using h i x hx, rfl, .int⟩
theorem byt_src (C : Cf w0 m0 rows R m q w) {s : List UInt8} (hs : s.length ≤ MAXL) : ∃ new, Src P m w 1 (s.map byteV) (Gw.str s) new :=
  C.src (P := P) (k := 1) (y := .str s) (u := Gw.str s) (.str hs) rfl rfl
/-- A string behind nothing. -/
theorem byt_new {T U E : Nat} {z : Value} {g : Bool} (hd : P.underlying T = some (.slice E)) (hE : tyOf P E = some (z, 1, 1, g)) (hz : z.cells.size = 1) (hU : P.underlying U = some .string) (C : Cf w0 m0 rows R m q w) {s : List UInt8} (h0 : s ≠ []) (hs : s.length ≤ 140737488355328) (typ : TypeId) :
    ∃ nc w' R', (Builtin.append_ #[T, U] typ #[.slice none 0 0, Gw.str s]).run P w = .ok (.slice (some ⟨w.heap.size, 0, none⟩) s.length nc) w' ∧ Bel [] w w' ∧ Cf w0 m0 (rows ++ [.byt E s]) R' m (q.add rows.length (some w.heap.size, s.length, nc, 1)) w' ∧
      (∀ b, b < w.heap.size → R' b = R b) := by
  have hpos : 0 < s.length := List.length_pos_iff.2 h0
  obtain ⟨new, S⟩ := byt_src (P := P) C (s := s) (by unfold MAXL; omega)
  have hl : ∀ w', (Builtin.lenOf (Gw.str s)).run P w' = .ok s.length w' := fun w' => by simpa using S.len w'
  have hn : (Builtin.firstCells 1 s.length (Gw.str s)).run P w.drew = .ok new.toArray w.drew := by simpa using S.run w.drew rfl
  obtain ⟨nc, h1, h2, h3⟩ := run_append_new (P := P) (w := w) (T := T) (U := U) (E := E) (k := 1) (e := 1) (n := 0) (n2 := s.length) (cap := 0) (oa := none) (xv := Gw.str s) (old := []) (new := new) hd hE hU rfl (Nat.le_refl 1) (hl w) (by simp [Builtin.firstCells]) hn (by omega) (by omega) typ
  have hsz : new.length = s.length := by simpa using S.size
  let arr' : Array Value := ([] : List Value).toArray ++ new.toArray ++ Builtin.zeroCells z.cells (nc - (0 + s.length))
  have harr : arr'.size = nc := by
    simp only [arr', Array.size_append, zeroCells_size, hz]
    simp only [List.size_toArray, List.length_nil]
    omega
  have hE' : ElsR m 1 (s.map byteV) arr' := by
    have := ElsR.app (P := P) (m := m) (w := w) (k := 1) (els := []) (ys := s.map byteV) (arr := arr') (arr' := arr') (new := new) (u := Gw.str s) (fun i x hi => by simp at hi) S (fun x hx => rfl) (fun x hx => by
      have := getElem_app3 (a := ([] : List Value).toArray) (b := new.toArray) (c := Builtin.zeroCells z.cells (nc - (0 + s.length))) (x := 0 + x) (by simp; simp at hx; omega)
      rw [show arr' = ([] : List Value).toArray ++ new.toArray ++ Builtin.zeroCells z.cells (nc - (0 + s.length)) from rfl]
      simpa using this)
    simpa using this
  refine ⟨nc, w.drew.alloc (.cells arr' E), R.put w.heap.size (.cells arr' E), by rw [h3]; simp only [arr', Nat.zero_add], (Bel.drew [] w).trans (Bel.alloc [] _ _), ?_, ?_⟩
  · refine C.new (.byt E s) ((C.sit.step (Bel.drew [] w)).new _) (Mem.Le.refl m) (fun b hb => if_neg (by omega)) (fun b hb => by cases hb; exact Nat.le_refl _) ?_
    exact ⟨w.heap.size, nc, arr', add_self _ _ _, by omega, h2, by simp [Mem.put], harr, byt_cells hE'⟩
  · intro b hb
    exact if_neg (by omega)
/-- A string behind bytes of one's own. -/
theorem byt_app {T U E r b cap : Nat} {z : Value} {g : Bool} (hd : P.underlying T = some (.slice E)) (hE : tyOf P E = some (z, 1, 1, g)) (hz : z.cells.size = 1) (hU : P.underlying U = some .string) (C : Cf w0 m0 rows R m q w) {l s : List UInt8}
    (hrow : rows[r]? = some (.byt E l)) (hq : q r = some (some b, l.length, cap, 1)) (hs : l.length + s.length ≤ 140737488355328) (typ : TypeId) :
    ∃ b' nc w' R', (Builtin.append_ #[T, U] typ #[.slice (some ⟨b, 0, none⟩) l.length cap, Gw.str s]).run P w = .ok (.slice (some ⟨b', 0, none⟩) (l ++ s).length nc) w' ∧ Bel [b] w w' ∧
      Cf w0 m0 (rows.set r .dead ++ [.byt E (l ++ s)]) R' m (q.add rows.length (some b', (l ++ s).length, nc, 1)) w' ∧ (∀ x, x < w.heap.size → x ≠ b → R' x = R x) := by
  obtain ⟨new, S⟩ := byt_src (P := P) C (s := s) (by unfold MAXL; omega)
  have hl : ∀ w', (Builtin.lenOf (Gw.str s)).run P w' = .ok s.length w' := fun w' => by simpa using S.len w'
  have hn : ∀ w' : World, w'.heap = w.heap → (Builtin.firstCells 1 s.length (Gw.str s)).run P w' = .ok new.toArray w' := fun w' h => by simpa using S.run w' h
  have hsz : new.length = s.length := by simpa using S.size
  obtain ⟨b', cap', arr, g1, g2, g3, g4, g5, g6⟩ := C.rok.row r _ hrow
  rw [hq] at g1
  cases g1
  have hblk := (C.sit.own _ _ g4).2.1
  by_cases hc : l.length + s.length ≤ cap
  · have hfit : l.length * 1 + new.length ≤ arr.size := by omega
    obtain ⟨w', hr, hbel, hh⟩ := run_append_in (P := P) (typ := typ) hd hE hU rfl (hl w) (hn w rfl) S.one hblk (noFz0 _) hfit hc
    have S' := C.sit.write g4 hbel hh
    have hnew : RowOK (R.put b (.cells (putL arr (l.length * 1) new) E (0, 0))) m (q.add rows.length (some b, (l ++ s).length, cap, 1)) rows.length (.byt E (l ++ s)) := by
      refine ⟨b, cap, putL arr (l.length * 1) new, add_self _ _ _, by simpa using hc, g3, if_pos rfl, by rw [size_putL]; exact g5, byt_cells (m := m) ?_⟩
      rw [List.map_append]
      exact (byt_els (m := m) g6).app S (fun x hx => by simp only [List.length_map] at hx; exact putL_old hfit hx) (fun x hx => by simp only [List.length_map] at hx ⊢; exact putL_new hfit (by omega))
    refine ⟨b, cap, w', _, by simpa using hr, hbel, C.move hrow rfl hq S' hnew, fun x _ hx => by simp [Mem.put, hx]⟩
  · have hc' : cap < l.length + s.length := by omega
    obtain ⟨old, S2⟩ : ∃ old, Src P m w 1 (l.map byteV) (.slice (some ⟨b, 0, none⟩) (l.map byteV).length cap) old := ⟨_, src_block (P := P) (m := m) (w := w) (b := b) (off := 0) (k := 1) (cap := cap) (ys := l.map byteV) hblk (fun i x hi => by simpa using byt_els (m := m) g6 i x hi)⟩
    have hold := S2.run w.drew rfl
    rw [List.length_map] at hold
    obtain ⟨nc, h1, h2, h3⟩ := run_append_new (P := P) (w := w) (T := T) (U := U) (E := E) (k := 1) (e := 1) (n := l.length) (n2 := s.length) (cap := cap) (oa := some ⟨b, 0, none⟩) (xv := Gw.str s) (old := old) (new := new) hd hE hU rfl (Nat.le_refl 1) (hl w) hold (hn w.drew rfl) hc' (by omega) typ
    have hos : old.length = l.length := by simpa using S2.size
    let arr' : Array Value := old.toArray ++ new.toArray ++ Builtin.zeroCells z.cells (nc - (l.length + s.length))
    have harr : arr'.size = nc := by
      simp only [arr', Array.size_append, zeroCells_size, hz]
      simp only [List.size_toArray]
      omega
    have hget : ∀ x, x < old.length + new.length → arr'[x]? = if x < old.length then old[x]? else new[x - old.length]? := fun x hx => by
      have := getElem_app3 (a := old.toArray) (b := new.toArray) (c := Builtin.zeroCells z.cells (nc - (l.length + s.length))) (x := x) (by simpa using hx)
      rw [show arr' = old.toArray ++ new.toArray ++ Builtin.zeroCells z.cells (nc - (l.length + s.length)) from rfl, this]
      simp
    have hels : ElsR m 1 (l.map byteV) old.toArray := fun i x hi => by
      refine ⟨(S2.el i x hi).1, fun j v hj => ?_⟩
      obtain ⟨u', f1, f2⟩ := (S2.el i x hi).2 j v hj
      exact ⟨u', by simpa using f1, f2⟩
    have hE' : ElsR m 1 ((l ++ s).map byteV) arr' := by
      rw [List.map_append]
      exact hels.app S (fun x hx => by
        simp only [List.length_map] at hx
        rw [hget x (by omega), if_pos (by omega)]; simp) (fun x hx => by
        simp only [List.length_map] at hx ⊢
        rw [hget _ (by omega), if_neg (by omega)]; congr 1; omega)
    have hlen : (rows.set r Row.dead).length = rows.length := by simp
    refine ⟨w.heap.size, nc, w.drew.alloc (.cells arr' E), R.put w.heap.size (.cells arr' E), by rw [h3, List.length_append], (Bel.drew [b] w).trans (Bel.alloc [b] _ _), ?_, fun x hx _ => if_neg (by omega)⟩
    have := (C.kill hrow).new (.byt E (l ++ s)) (((C.kill hrow).sit.step (Bel.drew [] w)).new (.cells arr' E)) (Mem.Le.refl m) (fun b hb => if_neg (Nat.ne_of_lt hb)) (ob := some w.heap.size) (n := (l ++ s).length) (c := nc) (k := 1) (fun b hb => by cases hb; exact Nat.le_refl _)
      ⟨w.heap.size, nc, arr', add_self _ _ _, by simpa using h1, h2, by simp [Mem.put], harr, byt_cells hE'⟩
    rw [hlen] at this
    exact this
/-- What lies in a builder. -/
theorem bld_cell {r T blk n c k : Nat} {b : V} (C : Cf w0 m0 rows R m q w) (hr : rows[r]? = some (.bx (some T) [.ptr r 0 0, b])) (hq : q r = some (some blk, n, c, k)) :
    ∃ a, R blk = some (.cells #[.pointer (some ⟨blk, 0, none⟩), a] T (0, 0)) ∧ w.heap[blk]? = some (.cells #[.pointer (some ⟨blk, 0, none⟩), a] T (0, 0)) ∧ VR m q b a ∧ a.oneCell' = true ∧ k = 2 := by
  obtain ⟨blk', arr, T', g1, g2, gT, g3, g4⟩ := C.rok.row r _ hr
  have hTT := gT _ rfl
  subst hTT
  rw [hq] at g1
  cases g1
  obtain ⟨a0, e0, f0, v0⟩ := g4 0 _ rfl
  obtain ⟨a1, e1, f1, v1⟩ := g4 1 _ rfl
  have h2 : arr.size = 2 := g3
  have harr : arr = #[a0, a1] := by
    have h0 := (Array.getElem?_eq_some_iff.1 e0)
    have h1 := (Array.getElem?_eq_some_iff.1 e1)
    apply Array.ext (by simp [h2])
    intro i hi1 hi2
    rw [h2] at hi1
    match i, hi1 with
    | 0, _ => exact h0.2
    | 1, _ => exact h1.2
  subst harr
  have ha : a0 = .pointer (some ⟨blk, 0, none⟩) := by
    cases v0 with
    | ptr h => rw [hq] at h; cases h; simp
  subst ha
  exact ⟨a1, g2, (C.sit.own _ _ g2).2.1, v1, f1, rfl⟩
/-- The builder's bytes are put there. -/
theorem bld_put {r T blk n c k : Nat} {b v : V} {u : Value} (C : Cf w0 m0 rows R m q w) (hr : rows[r]? = some (.bx (some T) [.ptr r 0 0, b])) (hq : q r = some (some blk, n, c, k)) (hv : VR m q v u) (hu : u.oneCell' = true) :
    ∃ R', Cf w0 m0 (rows.set r (.bx (some T) [.ptr r 0 0, v])) R' m q (w.setCell ⟨blk, 1, none⟩ u) := by
  obtain ⟨a, h1, h2, h3, h4, rfl⟩ := bld_cell C hr hq
  obtain ⟨blk', arr, T', g1, g2, gT, g3, g4⟩ := C.rok.row r _ hr
  rw [hq] at g1
  cases g1
  have hh : (w.setCell ⟨blk, 1, none⟩ u).heap[blk]? = some (.cells #[.pointer (some ⟨blk, 0, none⟩), u] T (0, 0)) := by
    rw [setCell_heap _ h2]
    simp
  refine ⟨_, C.store (r := r) (y := .bx (some T) [.ptr r 0 0, v]) hr rfl hq h1 (Bel.setCell w _ (.inr (by simp))) hh ⟨blk, #[.pointer (some ⟨blk, 0, none⟩), u], T, hq, by simp [Mem.put], fun T' e => by cases e; rfl, rfl, fun i x e => ?_⟩⟩
  match i, e with
  | 0, e =>
    obtain rfl : V.ptr r 0 0 = x := by simpa using e
    refine ⟨_, rfl, rfl, ?_⟩
    have : VR m q (.ptr r 0 0) (.pointer (some ⟨blk, 0 * 2 + 0, none⟩)) := .ptr hq
    simpa using this
  | 1, e =>
    obtain rfl : v = x := by simpa using e
    exact ⟨_, rfl, hu, hv⟩
theorem bld_any {r T blk n c k : Nat} {p b : V} (C : Cf w0 m0 rows R m q w) (hr : rows[r]? = some (.bx (some T) [p, b])) (hq : q r = some (some blk, n, c, k)) :
    ∃ a0 a, R blk = some (.cells #[a0, a] T (0, 0)) ∧ w.heap[blk]? = some (.cells #[a0, a] T (0, 0)) ∧ VR m q b a := by
  obtain ⟨blk', arr, T', g1, g2, gT, g3, g4⟩ := C.rok.row r _ hr
  have hTT := gT _ rfl
  subst hTT
  rw [hq] at g1
  cases g1
  obtain ⟨a0, e0, f0, v0⟩ := g4 0 _ rfl
  obtain ⟨a1, e1, f1, v1⟩ := g4 1 _ rfl
  have h2 : arr.size = 2 := g3
  have harr : arr = #[a0, a1] := by
    have h0 := (Array.getElem?_eq_some_iff.1 e0)
    have h1 := (Array.getElem?_eq_some_iff.1 e1)
    apply Array.ext (by simp [h2])
    intro i hi1 hi2
    rw [h2] at hi1
    match i, hi1 with
    | 0, _ => exact h0.2
    | 1, _ => exact h1.2
  subst harr
  exact ⟨a0, a1, g2, (C.sit.own _ _ g2).2.1, v1⟩
theorem freeze_bel {w : World} {g n : Nat} {cur : Array Value} {T : TypeId} {fz : Nat × Nat} (h : w.heap[g]? = some (.cells cur T fz)) : ∃ o', (w.freeze ⟨g, 0, none⟩ n).heap[g]? = some o' ∧ Bel [g] w (w.freeze ⟨g, 0, none⟩ n) := by
  unfold World.freeze
  split
  · exact ⟨_, h, Bel.refl _ _⟩
  · refine ⟨_, by rw [Array.getElem?_modify, if_pos rfl, h]; rfl, rfl, rfl, rfl, by simp, fun k hk hx => ?_⟩
    rw [Array.getElem?_modify, if_neg (fun e => hx (List.mem_singleton.2 e.symm))]
end
theorem wpl_append {P : Program} {w : World} {ops : Array Oper} {rest : List Oper} {o : Oper} {a : Act} {Q : Exit → Act → World → Prop} (hgd : o.guard = none) (sl x : Operand) (t u : TypeId)
    (ho : o.op = .call { callee := .builtin .append, args := #[sl, x], argTypes := #[t, u] }) {v v' s : Value} {w' : World} (hs : a.eval sl = v) (hx : a.eval x = s)
    (hr : (Builtin.append_ #[t, u] o.type #[v, s]).run P w = .ok v' w') (h : wpList P ops Q rest (a.put o.dst v') w') : wpList P ops Q (o :: rest) a w := by
  refine wpList_plain hgd fun K hK => ?_
  unfold Oper.wp execOp
  simp only [ho, resolve, invoke, builtin, Sem.run_bind, Sem.run_pure, Result.andThen_ok, List.map_toArray, List.map_cons, List.map_nil, hs, hx, hr]
  exact hK _ _ h
end Gv
end PartBld
section PartDoor
/-! What a row that lists variables, and the world's shape, give a law. -/
namespace Gv
open Go Go.Proofs Go.ChangeShapes
/-- What lies in the world at the call stays. -/
abbrev worldGlob (W : World) : Glob := ⟨all W⟩
theorem worldGlob_le (W : World) : (worldGlob W).mem.Le (all W) := fun b o h => h
theorem all_cell {W w : World} (h : Gw.Sub (all W) w) {a : Addr} {v : Value} (e : W.cell? a = some v) : w.cell? a = some v := by
  unfold World.cell? at e ⊢
  split at e
  · rename_i c x y hb
    rw [h _ _ hb]
    exact e
  · cases e
theorem all_int {P : Program} {W : World} {g : Nat} {t : TypeId} {zero : Array Value} {k : IntKind} (h : W.ShapedOpen P) (hg : g < P.globals.size) (h0 : ((begin P (fun _ _ => 0) default).world.heap[g]?).bind Obj.row? = some (zero, t)) (hz : zero.size = 1)
    (hb : P.buildable t = true) (hc : P.cellTypes P.depth t = some [t]) (hu : P.underlying t = some (.int k)) : ∀ w, Gw.Sub (all W) w → ∃ n, w.cell? ⟨g, 0, none⟩ = some (.int k n) := fun w hw => by
  obtain ⟨n, hn⟩ := cell_of_shapedOpen_int h hg h0 hz hb hc hu
  exact ⟨n, all_cell hw hn⟩
theorem all_var {P : Program} {W w : World} (h : Gw.Sub (all W) w) {n : String} {cs : Array Value} (e : W.var? P n = some cs) : w.var? P n = some cs := by
  unfold World.var? at e ⊢
  cases hg : P.globalNamed n with
  | none => rw [hg] at e; cases e
  | some g =>
    rw [hg] at e
    simp only [Option.bind_some] at e ⊢
    cases hb : W.heap[g]? with
    | none => rw [hb] at e; cases e
    | some o => rw [hb] at e; rw [h g o hb]; exact e
theorem all_tab {P : Program} {W : World} {n : String} {k : IntKind} {zs : List Int} (h : Lib.TabIs P W n k zs) : ∀ w, Gw.Sub (all W) w → Lib.TabIs P w n k zs := fun w hw => all_var hw h
theorem len_bytes {P : Program} {e : TypeId} {n : Nat} (hb : P.bytesOf e = 1) (h : n * P.bytesOf e ≤ reachBytes) : n ≤ 140737488355328 := by
  rw [hb, Nat.mul_one] at h
  exact Nat.le_trans h (by decide)
/-- The wrap: what the row lists, and the world's shape. -/
theorem returns_both {H : Type} {enc : TypeId × Value → H} {a : Assume} {C : Checked} {os : Os} {f : FuncId} {fn : Func} {s : ChangeSpec} {conds : List PathCond} {apart fresh handsOn again : Bool} {X : World → Array Value → Prop}
    (hX : ∀ (w w' : World) (args : Array Value), w.heap = w'.heap → X w args → X w' args)
    (own : ownKnob C.prog.godebug = none) (started : os.Started) (noInit : C.prog.inits.idxOf? f = none) (hfn : C.prog.funcs[f]? = some fn)
    (witness : ∃ (w : World) (tape : Tape) (i : Input), w.os = os ∧ (w.forCall tape i).Shaped C.prog ∧ i.vars = [] ∧ Input.okWide C.prog (w.forCall tape i) .any w.heap.size f i ∧
      ((s.pre enc C.prog fn conds apart (w.forCall tape i).memory i.args ∧ X (w.forCall tape i).memory i.args) ∧ sizedMet enc C.prog fn (OpenSpec.ofChange s) apart (w.forCall tape i).memory i.args) ∧ a.holds C.prog (lone (Frame.enter C.prog f i.args .normal) [] (w.forCall tape i)))
    (contract : ∀ (W : World) (base : Nat) (args : Array Value) (ds gs : List (DataW H)) (before : List MemPlace),
      (∀ (j : Nat) t v, fn.params[j]? = some t → args[j]? = some v → Value.okWide C.prog W .any base t v) →
      DataW.Whole enc C.prog fn.params.toList s.vars apart W args.toList ds gs before →
      (DataW.weightsEach C.prog (fn.params.toList ++ s.plain.varTypes C.prog) (ds ++ gs)).all (· ≤ reachBytes) = true → X W args → W.ShapedOpen C.prog →
      Calls C.prog f args W fun e W' => ∃ v, e = .returned v ∧ s.post enc C.prog fn apart fresh handsOn again W args v W') :
    ReturnsInHanded a C os f .any (fun w args => (s.pre enc C.prog fn conds apart w args ∧ X w args) ∧ sizedMet enc C.prog fn (OpenSpec.ofChange s) apart w args) (s.post enc C.prog fn apart fresh handsOn again) := by
  refine returnsInHanded_of_calls own started noInit witness ?_
  intro w tape i _ hsh _ hok hpre _
  obtain ⟨_, _, _, fn', hfn', _, _, _, _, hval⟩ := hok
  have e : fn' = fn := Option.some.inj (hfn'.symm.trans hfn)
  subst e
  obtain ⟨⟨⟨ds, gs, before, hw, hc⟩, hx⟩, hz⟩ := hpre
  have hw' := DataW.Whole.of_heap (w' := w.forCall tape i) (by rfl) hw
  refine (contract (w.forCall tape i) w.heap.size i.args ds gs before hval hw' (hz.weights hw) (hX _ _ _ (by rfl) hx) hsh).mono fun e W' ⟨v, he, hp⟩ => ?_
  subst he
  exact ChangeSpec.post_blind hp
end Gv
end PartDoor
